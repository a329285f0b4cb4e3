/- Parts of a proof. No condition. -/
import Derived.Test.YtimlcnhcjndijaaGreatDoorF16
import Derived.Test.YtimlcnhcjndijaaGreatDoorF18
set_option linter.all false
set_option maxRecDepth 100000
set_option maxHeartbeats 3200000
namespace Go.Proofs.YtimlcnhcjndijaaGreatDoor
open Go renaming World->WD,Value->VL,Calls->CS
open Go.RowKit renaming Below->BW
open Go.Proofs.Tryz
section
open Go.RowKit Go.Maps Go.Lib
variable{js:List (Nat×aj)}{cap g i:Nat}{T:Tv}{w w' w1 wr:WD}
def N8 (s:dn) (after:List Int) (id:Int):Jb:=⟨id,{ s with array:=1,after:=after },(Kc s.ae s.held).1,-1,[],[]⟩
def Iu (s:dn) (after:List Int) (js:List Jb):Nat->List Jb
 | 0=>js
 | n+1=>Iu s after js n++[N8 s after ((js.length+n+1:Nat):Int)]
def El:List (dn×List Int)->List Jb->List Jb
 | [],js=>js
 | p :: l,js=>El l (Iu p.1 p.2 js p.1.array.toNat)
def G8 (l:List dn):Int:=(l.map fun s=>s.array).foldl (·+·) 0
def R9 (ns:List Fa) (i:Int):Fa:=(ns[i.toNat]?).getD ⟨false,false,-1⟩
def Le (t:du) (e:cu):Int:=
 if (t.nodes.length:Int)<=e.node then 142
 else if e.kind=8\/e.kind=9 then (if e.tick<t.tick then 141 else if (R9 t.nodes e.node).up≠decide (e.kind=8) then 100 else 0)
 else if e.kind=10\/e.kind=11 then (if (R9 t.nodes e.node).bq≠decide (e.kind=11) then 100 else 0)
 else 0
def Fx (js:List Jb) (id:Int):Jb:=(js[(id-1).toNat]?).getD ⟨0,dn.zero,Lf.zero,0,[],[]⟩
def Jy (t:du) (e:cu):Int:=
 if (t.ab.length:Int)<e.br then 90
 else if e.kind≠7 then (A2 (Fx t.ab e.br).lf (F7 e.kind)).2
 else if Gl (Fx t.ab e.br) e.attempt e.node=none then 100 else 0
def du.ft (t:du) (js:List Jb):du:={ t with ab:=js }
def Dt (js:List Jb) (id:Int) (f:Jb->Jb):List Jb:=js.modify (id-1).toNat f
def J0 (s:Int) (j:Jb):Jb:=if di (j.move s).lf.st=true then j.move s else (j.move s).bare
def Afr (t:du) (e:cu):du×Cl:=(t.ft (Dj (Dt t.ab e.br (J0 (F7 e.kind)))),⟨0,0,e.br,e.br⟩)
def J1 (e:cu) (j:Jb):Jb:=match Gl j e.attempt e.node with
 | none=>j
 | some k=>Fb j k e.bm
def Afs (t:du) (e:cu):du:=t.ft (Gk (Dt t.ab e.br (J1 e)))
def N9 (t:du) (e:cu):du:=
 if e.kind=8 then { t with nodes:=t.nodes.modify e.node.toNat (fun n=>⟨false,n.bq,n.since⟩),ab:=Gk (t.ab.map fun j=>Fc j e.node) }
 else if e.kind=9 then { t with nodes:=t.nodes.modify e.node.toNat (fun n=>⟨true,n.bq,e.tick⟩) }
 else { t with nodes:=t.nodes.modify e.node.toNat (fun n=>⟨n.up,decide (e.kind=10),n.since⟩) }
def Kj (j:Jb):V4:=To { j.sp with after:=[] }
def Du (js:List Jb):List eh:=(js.filter fun j=>j.live).map fun j=>⟨j.sp.user,Kj j⟩
def Dy (js:List Jb):List (List Int×V4×Int):=(js.filter fun j=>j.live).map fun j=>((j.parts.filter fun p=>decide (p.2=0)).map Prod.fst,j.sp.cq,Ke j)
def Br (js:List Jb):List df:=(js.filter fun j=>Js js j).map fun j=>⟨j.id,j.sp.user,j.sp.prio,Kj j⟩
def G9 (t:Int) (j:Jb):Jb:=if j.live=true/\Ke j<=t then Fc j (-1) else j
def r6 (t:du):List Bool:=t.nodes.map fun n=>n.up && !n.bq && decide (n.since<t.tick)
def Ff (j:Jb):Jb:=if j.lf.st=1 then j.bare else j
def F8 (tick st:Int) (zs:List Int) (j:Jb):Jb:=
 if st=tick then ⟨j.id,j.sp,(A2 j.lf 3).1,st,zs,j.parts++zs.map fun n=>(n,0)⟩ else ⟨j.id,j.sp,j.lf,st,zs,j.parts⟩
def Ia (tick:Int):List (Int×Int×List Int)->List Jb->List Jb
 | [],js=>js
 | s :: l,js=>Ia tick l (Dt js s.1 (F8 tick s.2.1 s.2.2))
def Abp (j:Jb):Prop:=-1<=j.start/\j.start<=1099511627776/\0<=j.sp.wall/\j.sp.wall<=1099511627776
def Aim  {b:Nat} {x:aj} (d:Bb w b x) (k:Abp x.pl):CS prog 132 #[.pointer (some ⟨b,0,none⟩)] w fun e w'=>e=.returned (.int .i64 (Ke x.pl))/\∃ n,w'=w.drewN n:=by
 obtain ⟨h1,h,i,j⟩:=k;obtain ⟨s,a⟩:=Ex (x.pl.start);obtain ⟨v,c⟩:=Ex (x.pl.sp.wall);have g:w.cell? ⟨b,19,none⟩=some (.int .i64 s):=by rw [a];exact Aa d 19
 have l:w.cell? ⟨b,8,none⟩=some (.int .i64 v):=by rw [c];exact Aa d 8
 have f:Ke x.pl=s+8+v:=by rw [a,c];rfl
 rw [<- a] at h1 h;rw [<- c] at i j;have w1:IntKind.i64.wrap (s+8)=s+8:=Id (by omega) (by omega);have m:IntKind.i64.wrap (s+8+v)=s+8+v:=Id (by omega) (by omega);replace ⟨d,f,a,c⟩:=H4 d f a c;go_enter func132,ntmps132;go_upto_region 1 with fail;go_quiet (fail);go_wp2_with fail;go_ret;exact ⟨by rw [f.out];rfl,_,rfl⟩
def Ain  {b:Nat} {x:aj} {S:Nat->Prop} (k:Bb w b x) (s:N6 w S x):CS prog 184 #[.pointer (some ⟨b,0,none⟩)] w fun e w'=>e=.returned (Kj x.pl).val/\BW w.heap.size w w':=by
 obtain ⟨⟨id,⟨g,d,nodes,⟨u,y,z,dd⟩,h,f,array,t,c,after⟩,lf,start,ak,parts⟩,so,sn,sc,go,gn,gc,po,pn,pc⟩:=x;obtain ⟨⟨na,nb,nc,nd⟩,r⟩:∃ v,v=To ⟨g,d,nodes,⟨u,y,z,dd⟩,h,f,array,t,c,[]⟩:=⟨_,rfl⟩
 have kn:∀ W,CS prog 234 #[.agg #[.string g,.string d,.int .i64 nodes,.int .i64 u,.int .i64 y,.int .i64 z,.int .i64 dd,.int .i64 h,.int .i64 f,.int .i64 array,.int .i64 t,.bool c,.slice none 0 0]] W fun e w'=>e=.returned (.agg #[.int .i64 na,.int .i64 nb,.int .i64 nc,.int .i64 nd])/\BW W.heap.size W w':=fun W=>by
  have:=Aom ⟨⟨g,d,nodes,⟨u,y,z,dd⟩,h,f,array,t,c,[]⟩,none,0,0⟩ W ⟨Wl W,Nat.le_refl _,s.user,s.part⟩;rw [<- r] at this;exact this
 have y1:=Bk k 1 (.string g) rfl;have y2:=Bk k 2 (.string d) rfl;have y3:=Bk k 3 (.int .i64 nodes) rfl;have y4:=Bk k 4 (.int .i64 u) rfl;have y5:=Bk k 5 (.int .i64 y) rfl;have y6:=Bk k 6 (.int .i64 z) rfl;have y7:=Bk k 7 (.int .i64 dd) rfl;have y8:=Bk k 8 (.int .i64 h) rfl;have y9:=Bk k 9 (.int .i64 f) rfl;have am:=Bk k 10 (.int .i64 array) rfl;have an:=Bk k 11 (.int .i64 t) rfl;have ao:=Bk k 12 (.bool c) rfl;have ap:=Bk k 13 (.slice so sn sc) rfl;have aA:=Ab k;obtain ⟨W1,l⟩:=Ex ((w.alloc (.cells #[.int .i64 0,.int .i64 0,.int .i64 0,.int .i64 0] 30)).alloc (.cells #[.string g,.string d,.int .i64 nodes,.int .i64 u,.int .i64 y,.int .i64 z,.int .i64 dd,.int .i64 h,.int .i64 f,.int .i64 array,.int .i64 t,.bool c,.slice so sn sc] 33));have n:BW w.heap.size w W1:=by rw [l];exact Bn.alloc (by simp) _
 have o:W1.heap[w.heap.size]?=some (.cells #[.int .i64 0,.int .i64 0,.int .i64 0,.int .i64 0] 30 (0,0)):=by rw [l];exact Aj _ (Ah _ _)
 have p:W1.heap[w.heap.size+1]?=some (.cells #[.string g,.string d,.int .i64 nodes,.int .i64 u,.int .i64 y,.int .i64 z,.int .i64 dd,.int .i64 h,.int .i64 f,.int .i64 array,.int .i64 t,.bool c,.slice so sn sc] 33 (0,0)):=by rw [l];exact A3 _ _ (by simp)
 have hz:(Kj ⟨id,⟨g,d,nodes,⟨u,y,z,dd⟩,h,f,array,t,c,after⟩,lf,start,ak,parts⟩)=⟨na,nb,nc,nd⟩:=r.symm;have av:=Bk p 12 (.slice so sn sc) rfl;have fz:=Af p;obtain ⟨W2,m⟩:=Ex (W1.setCell ⟨w.heap.size+1,12,none⟩ (.slice none 0 0));have i:BW w.heap.size w W2:=by rw [m];exact B9 n (by omega)
 have a:W2.heap[w.heap.size]?=some (.cells #[.int .i64 0,.int .i64 0,.int .i64 0,.int .i64 0] 30 (0,0)):=by rw [m];exact (Cm _ _ _ _ (fun e=>by simp at e)).trans o
 have q:W2.heap[w.heap.size+1]?=some (.cells #[.string g,.string d,.int .i64 nodes,.int .i64 u,.int .i64 y,.int .i64 z,.int .i64 dd,.int .i64 h,.int .i64 f,.int .i64 array,.int .i64 t,.bool c,.slice none 0 0] 33 (0,0)):=by rw [m];have:=Am p 12 (.slice none 0 0);simpa using this
 replace ⟨k,s,r,kn,n,o,p,hz⟩:=H8 k s r kn n o p hz;replace ⟨i,a,q⟩:=H3 i a q;go_enter func184,ntmps184;go_upto_region 2 with fail;rw [<- l];clear l y1 y2 y3 y4 y5 y6 y7 y8 y9 am an ao ap;go_upto_region 3 with fail;rw [<- m];clear m av fz;obtain ⟨s0,s1,s2,s3,s4,s5,s6,s7,s8,s9,ac,ad,al⟩:=C13 q.out;(try dsimp only at s0 s1 s2 s3 s4 s5 s6 s7 s8 s9 ac ad al);go_wp2_with (go_at_call 234;(with_reducible refine (kn.out _).mono ?_);rintro e w3 ⟨rfl,j⟩;have r0:w3.cell? ⟨w.heap.size,0,none⟩=some (.int .i64 0):=Aa (Ae j a.out (Ab a.out)) 0;have r1:w3.cell? ⟨w.heap.size,1,none⟩=some (.int .i64 0):=Aa (Ae j a.out (Ab a.out)) 1;have r2:w3.cell? ⟨w.heap.size,2,none⟩=some (.int .i64 0):=Aa (Ae j a.out (Ab a.out)) 2;have r3:w3.cell? ⟨w.heap.size,3,none⟩=some (.int .i64 0):=Aa (Ae j a.out (Ab a.out)) 3;have fr:=Af (Ae j a.out (Ab a.out));replace j:=Hh j);refine Ak (v:=V4.val ⟨na,nb,nc,nd⟩) (by simp [results,results184,go_sem,r0,r1,r2,r3]) rfl ⟨by rw [hz.out],?_⟩;exact B9 (B9 (B9 (B9 (i.trans (j.mono i.size)) (by omega)) (by omega)) (by omega)) (by omega)
def Aup:∀ args w,(callFunc 247 args).run prog w=.ok (.enter 247 args) w:=I4 func247 (by decide) (by simp [f247])
def Auq   (h:An w T) (f:Nat) (c:w.cell? ⟨f,0,none⟩=some (.pointer (some ⟨T.tb,0,none⟩))) (k:Nat) (n:k<T.js.length) :
  CS prog 247 (#[.int .i64 ((k:Int)+1)]++#[.pointer (some ⟨f,0,none⟩)]) w fun e w'=>e=.returned (.bool (!decide (L4 T.pl.ab ((k:Int)+1)=5)))/\w'=w:=by
 obtain ⟨j,b⟩:=Ge T.js k n;rw [Afb b];obtain ⟨g,cap,i,r,z,_⟩:=h.j6 b;obtain ⟨tb,q⟩:=Ex (T.tb);obtain ⟨jb,a⟩:=Ex (j.1);obtain ⟨m,o⟩:=Ex (T.js.length);obtain ⟨s,d⟩:=Ex (j.2.pl.lf.st);have cs:w.cell? ⟨j.1,14,none⟩=some (.int .i64 j.2.pl.lf.st):=Aa (h.box j (Ai b)) 14
 have p:m<=9223372036854775807:=by
  rcases h.ab.2 with ⟨_,u⟩ | ⟨g',l,t,u,_,_,h1,v,_⟩
  .omega
  .unfold maxLen at v;omega
 rw [<- a,<- d] at cs;rw [<- q] at i c;rw [<- o] at i n;rw [<- a] at r;rw [<- d];have y:(k:Int)<m:=by omega
 have x:(0:Int)<=(k:Int):=by omega
 clear q a o d h b;go_enter func247,ntmps247;go_wp2_with fail;go_ret;exact ⟨by first | rfl | (congr 1;congr 1;simp [bne];rfl) | simp [bne],rfl⟩
abbrev Gv (c:Cl):VL:=.agg #[.int .i64 c.e,.int .i64 c.first,.int .i64 c.last]
def Abt (w:WD) (T:Tv) (X:List Jb) (c:Cl) (e:Ending) (w':WD):Prop:=e=.returned (Gv c)/\∃ js,Bq w T js w'/\js.map (fun j=>j.2.pl)=X
structure r9 (w:WD) (x:cz) (wr:WD):Prop where
 low:BW w.heap.size w wr
 box:wr.heap[w.heap.size]?=some (.cells x.cells 40 (0,0))
 res:wr.heap[w.heap.size+1]?=some (.cells #[.int .i64 0,.int .i64 0,.int .i64 0] 35 (0,0))
def r9.new (w:WD) (x:cz):r9 w x ((w.alloc (.cells x.cells 40 (0,0))).alloc (.cells #[.int .i64 0,.int .i64 0,.int .i64 0] 35 (0,0))):=
 ⟨Bn.alloc (by simp) _,Aj _ (Ah _ _),A3 _ _ (by simp)⟩
structure Cj (w:WD) (T:Tv) (x:cz) (js:List (Nat×aj)) (wr:WD):Prop where
 tab:Bq w T js wr
 box:wr.heap[w.heap.size]?=some (.cells x.cells 40 (0,0))
 res:wr.heap[w.heap.size+1]?=some (.cells #[.int .i64 0,.int .i64 0,.int .i64 0] 35 (0,0))
def Cj.new   (h:An w T) (x:cz):Cj w T x T.js ((w.alloc (.cells x.cells 40 (0,0))).alloc (.cells #[.int .i64 0,.int .i64 0,.int .i64 0] 35 (0,0))):=
 ⟨(Bq.refl h).low (r9.new w x).low,(r9.new w x).box,(r9.new w x).res⟩
def Cj.low   {x:cz}  (h:Cj w T x js wr) (a:BW wr.heap.size wr w'):Cj w T x js w':=⟨h.tab.low a,Ae a h.box (Ab h.box),Ae a h.res (Ab h.res)⟩
def Cj.then   {x:cz} {js a:List (Nat×aj)} (h:Cj w T x js wr) (b:Bq wr { T with js:=js } a w'):Cj w T x a w':=
 ⟨h.tab.then b,b.mod.ar h.box (h.tab.at_.off h.box (by decide) (by decide) (by decide) (by decide) (by decide)),b.mod.ar h.res (h.tab.at_.off h.res (by decide) (by decide) (by decide) (by decide) (by decide))⟩
def Cj.dj   {e:cz}  (h:Cj w T e js wr) {i b:Nat} {x y:aj} (g:js[i]?=some (b,x)) (d:Mod (F4 (b,x)) wr w') (a:Bb w' b y) (f:Bv w' y) (c:G7 x y):Cj w T e (js.set i (b,y)) w':=
 h.then ((Bq.refl (T:={ T with js:=js }) h.tab.at_).dj g d a f c)
def Cj.pz   {x:cz}  (h:Cj w T x js wr) (h0:An w T) (a b c:VL):Bq w T js (((wr.setCell ⟨w.heap.size+1,0,none⟩ a).setCell ⟨w.heap.size+1,1,none⟩ b).setCell ⟨w.heap.size+1,2,none⟩ c):=
 h.tab.fp h0 h.res ((((Mod.refl (fun k=>k=w.heap.size+1) wr).set _ 0 a rfl).set _ 1 b rfl).set _ 2 c rfl) (by omega) (by decide) (by decide) (by decide) (by decide) (by decide) (by decide)
def Avk (s:Int) (j:Jb):(J0 s j).sp=j.sp:=by
 unfold J0
 split<;>rfl
def Aiw (js:List Jb) (i:Nat) (f:Jb->Jb) (a:∀ j,(f j).sp=j.sp):(js.modify i f).map Jb.sp=js.map Jb.sp:=by
 apply Ea;intro k;simp only [Bh,Ev]
 cases js[k]? with
 | none=>rfl
 | some j=>
  simp only [J9];split
  .exact Ca some (a j)
  .rfl
def Avl   (x:cz) (h:An w T) (ha:D8 T.pl.ab) (k:Nat) (hk:k<T.js.length) (hj:x.n.br=(k:Int)+1) :
  CS prog 86 #[.pointer (some ⟨T.tb,0,none⟩),x.val] w (Abt w T (Dj (Dt T.pl.ab x.n.br (J0 (F7 x.n.kind)))) ⟨0,0,x.n.br,x.n.br⟩):=by
 have t:=Cj.new h x;obtain ⟨W0,aD⟩:=Ex ((w.alloc (.cells x.cells 40 (0,0))).alloc (.cells #[.int .i64 0,.int .i64 0,.int .i64 0] 35 (0,0)));rw [<- aD] at t;obtain ⟨j,d⟩:=Ge T.js k hk;obtain ⟨g,cap,c4,cj,aM,_⟩:=t.tab.at_.j6 d;have aJ:W0.cell? ⟨T.tb,4,none⟩=some (.slice (some ⟨g,0,none⟩) T.js.length cap):=c4;have aK:T.js.length<=9223372036854775807:=by obtain ⟨_,_,_,_,hm,_⟩:=h.mm;exact hm
 obtain ⟨i,b⟩:=j;obtain ⟨tb,ht⟩:=Ex (T.tb);obtain ⟨m,hm⟩:=Ex (T.js.length);obtain ⟨s,hs⟩:=Ex (F7 x.n.kind)
 have aH:1<=s/\s<=8:=by rw [hs];unfold F7;split<;>(try split)<;>omega
 have ks:=fun W=>Afo x.n.kind W;rw [<- hs] at ks;obtain ⟨l,hl⟩:=Ex ((A2 b.pl.lf s).1);have aA:=fun (W:WD) (hW:Bb W i b)=>R7 hW s aH;rw [<- hl] at aA;obtain ⟨X1,ad⟩:=Ex (Dt T.pl.ab x.n.br (J0 s));have o:X1=T.pl.ab.modify k (J0 s):=by rw [ad,hj];unfold Dt;rw [show ((k:Int)+1-1).toNat=k by omega]
 have ao:D8 X1:=by rw [o];exact Qi ha (Aiw _ _ _ (Avk s))
 have p:J0 s b.pl=if di l.st=true then (b.bh l).pl else (b.bh l).bare.pl:=by rw [hl];rfl
 rw [<- hs,<- ad,<- ht];rw [<- ht,<- hm] at aJ;have kl:=fun W=>Qg l.st W;obtain ⟨q,hq⟩:=Ex (di l.st);rw [<- hq] at kl p;obtain ⟨⟨kd,ep,tk,cl,sq,jn,an,nn,hw⟩,so,sn,sc,de⟩:=x;simp only at hj ad ks;subst hj;have e0:=Bk t.box 0 (.int .i64 kd) rfl;have e5:=Bk t.box 5 (.int .i64 ((k:Int)+1)) rfl;have aO:(k:Int)<m:=by omega
 have aN:(0:Int)<=(k:Int):=by omega
 rw [hm.symm] at aK;replace ⟨h,ha,t,d,ht,hm,hs,aH⟩:=H8 h ha t d ht hm hs aH;replace ⟨ks,hl,aA,ad,o,ao,p,kl⟩:=H8 ks hl aA ad o ao p kl;replace hq:=Hh hq;clear c4 aM hk;go_enter func86,ntmps86;go_wp2_with fail;rw [<- aD];clear aD;go_quiet (fail);rename_i nq;have ac:=t.low (⟨rfl,rfl,rfl,Nat.le_refl _,fun _ _=>rfl⟩:BW W0.heap.size W0 (W0.drewN nq));have aG:=aA _ (ac.tab.get d.out).1;replace ⟨ac,aG⟩:=H2 ac aG;go_wp2_with fail;refine (ks _).mono ?_;rintro e w1 ⟨rfl,rfl⟩;go_wp2_with fail;refine aG.mono ?_;rintro e w2 ⟨rfl,al,ap⟩;have am:=(ac.tab.get d.out).2
 have c:Cj w T _ (T.js.set k (i,b.bh l)) w2:=
  ac.dj d.out (Pb ap) al (Tw (x:=b) (ac.tab.get d.out).1 am.parts ap) (Wt _ _)
 have aL:=Bk al 14 (.int .i64 l.st) rfl;have r:(T.js.set k (i,b.bh l))[k]?=some (i,b.bh l):=by have:=(Ao.1 d.out).1;simp [this]
 have aF:=Wq al;clear aJ cj e0 e5;replace ⟨am,al,ap,c,aF,r⟩:=H6 am al ap c aF r;go_wp2_with fail;refine (kl _).mono ?_;rintro e w3 ⟨rfl,rfl⟩
 cases q with
 | true=>
  clear aL;have hX:(T.js.set k (i,b.bh l)).map (fun j=>j.2.pl)=X1:=by rw [Na T.js d.out (f:=J0 s) (by rw [p.out,Ad rfl]),o.out];rfl
  have u:CS prog 130 #[.pointer (some ⟨tb,0,none⟩)] w3 (Ki w3 { T with js:=T.js.set k (i,b.bh l) } (Dj X1)):=by
   have:=Ww (T:={ T with js:=T.js.set k (i,b.bh l) }) c.tab.at_ (by
    show D8 ((T.js.set k (i,b.bh l)).map fun j=>j.2.pl)
    rw [hX];exact ao.out)
   rw [show ({ T with js:=T.js.set k (i,b.bh l) }:Tv).pl.ab=X1 from hX] at this;rw [ht.out];exact this
  replace ⟨hX,u⟩:=H2 hX u;go_wp2_with fail;refine u.mono ?_;rintro e w4 ⟨rfl,aI,z,y⟩
  have a:=c.then z
  have d5:=Bk a.box 5 (.int .i64 ((k:Int)+1)) rfl;obtain ⟨r0,r1,r2⟩:=C3 a.res;(try dsimp only at r0 r1 r2);have fr:=Af a.res;replace ⟨z,y,a⟩:=H3 z y a;go_wp2;refine Ak (v:=Gv ⟨0,0,(k:Int)+1,(k:Int)+1⟩) (by simp [results,results86,go_sem,r0,r1,r2]) rfl ⟨rfl,aI,?_,y.out⟩;exact a.pz h.out _ _ _
 | false=>
  clear aL;go_wp2_with fail;refine aF.mono ?_;rintro e w5 ⟨rfl,aE,av⟩
  have aC:Cj w T _ ((T.js.set k (i,b.bh l)).set k (i,(b.bh l).bare)) w5:=
   c.dj r.out (Pb av) aE (Tw (x:=b.bh l) (c.tab.get r.out).1 (c.tab.get r.out).2.parts av) (Wu _)
  have aB:(T.js.set k (i,b.bh l)).set k (i,(b.bh l).bare)=T.js.set k (i,(b.bh l).bare):=by simp
  rw [aB] at aC;clear c;have c:=Hh aC;clear aC;replace ⟨aE,av,aB⟩:=H3 aE av aB;have hX:(T.js.set k (i,(b.bh l).bare)).map (fun j=>j.2.pl)=X1:=by rw [Na T.js d.out (f:=J0 s) (by rw [p.out,Ac (by simp)]),o.out];rfl
  have u:CS prog 130 #[.pointer (some ⟨tb,0,none⟩)] w5 (Ki w5 { T with js:=T.js.set k (i,(b.bh l).bare) } (Dj X1)):=by
   have:=Ww (T:={ T with js:=T.js.set k (i,(b.bh l).bare) }) c.tab.at_ (by
    show D8 ((T.js.set k (i,(b.bh l).bare)).map fun j=>j.2.pl)
    rw [hX];exact ao.out)
   rw [show ({ T with js:=T.js.set k (i,(b.bh l).bare) }:Tv).pl.ab=X1 from hX] at this;rw [ht.out];exact this
  replace ⟨hX,u⟩:=H2 hX u;go_wp2_with fail;refine u.mono ?_;rintro e w4 ⟨rfl,aI,z,y⟩
  have a:=c.then z
  have d5:=Bk a.box 5 (.int .i64 ((k:Int)+1)) rfl;obtain ⟨r0,r1,r2⟩:=C3 a.res;(try dsimp only at r0 r1 r2);have fr:=Af a.res;replace ⟨z,y,a⟩:=H3 z y a;go_wp2;refine Ak (v:=Gv ⟨0,0,(k:Int)+1,(k:Int)+1⟩) (by simp [results,results86,go_sem,r0,r1,r2]) rfl ⟨rfl,aI,?_,y.out⟩;exact a.pz h.out _ _ _
def Avm (e:cu) (j:Jb):(J1 e j).sp=j.sp:=by
 unfold J1
 split<;>rfl
def Avn (x:aj) (k:Nat) (h:Int):G7 x (x.cg (Fb x.pl k h)):=⟨rfl,rfl,rfl,rfl,rfl,rfl,.inl ⟨rfl,rfl,rfl,rfl⟩,fun _ h=>h⟩
def Avo {x:aj}  (b:Bv w x) {a n:Int}  (h:Gl x.pl a n=some i):i<x.pn:=by
 have c:=Jt b;unfold Gl at h;split at h
 .have:=Yk.1 h;obtain ⟨h1,_⟩:=this;omega
 .cases h
structure xo (w:WD) (T:Tv) (x:cz) (js:List (Nat×aj)) (wr:WD):Prop where
 tab:Cj w T x js wr
def Avp   (x:cz) (h:An w T) (ha:D8 T.pl.ab) (k:Nat) (j:Nat×aj) (b:T.js[k]?=some j) (hj:x.n.br=(k:Int)+1) (i:Nat) (s:Gl j.2.pl x.n.attempt x.n.node=some i) :
  CS prog 84 #[.pointer (some ⟨T.tb,0,none⟩),x.val] w (Abt w T (Gk (Dt T.pl.ab x.n.br (J1 x.n))) ⟨0,0,0,0⟩):=by
 have a:=Cj.new h x;obtain ⟨W0,al⟩:=Ex ((w.alloc (.cells x.cells 40 (0,0))).alloc (.cells #[.int .i64 0,.int .i64 0,.int .i64 0] 35 (0,0)));rw [<- al] at a;have hk:=(Ao.1 b).1;obtain ⟨g,cap,c4,cj,aE,_⟩:=a.tab.at_.j6 b;have aB:W0.cell? ⟨T.tb,4,none⟩=some (.slice (some ⟨g,0,none⟩) T.js.length cap):=c4;have aC:T.js.length<=9223372036854775807:=by obtain ⟨_,_,_,_,hm,_⟩:=h.mm;exact hm
 obtain ⟨jb,l⟩:=j;have q:=(a.tab.get b).2;have ac:=Avo q.parts s;obtain ⟨pb,p,ad,_,_,_⟩:=Qj q.parts ac;obtain ⟨tb,ht⟩:=Ex (T.tb);obtain ⟨m,hm⟩:=Ex (T.js.length);obtain ⟨X1,u⟩:=Ex (Dt T.pl.ab x.n.br (J1 x.n));have o:X1=T.pl.ab.modify k (J1 x.n):=by rw [u,hj];unfold Dt;rw [show ((k:Int)+1-1).toNat=k by omega]
 have am:D8 X1:=by rw [o];exact Qi ha (Aiw _ _ _ (Avm x.n))
 have ao:J1 x.n l.pl=Fb l.pl i x.n.bm:=by unfold J1;rw [s]
 have d:∀ W,BW W0.heap.size W0 W->CS prog 102 #[.pointer (some ⟨jb,0,none⟩),.int .i64 x.n.attempt,.int .i64 x.n.node] W fun e w'=>e=.returned (.pointer (some ⟨pb,i*2,none⟩))/\w'=W:=fun W hb=>by
  obtain ⟨q1,q2⟩:=(a.tab.low hb).get b;refine (Afq q1 q2.parts x.n.attempt x.n.node).mono fun e w' ⟨y,hp⟩=>⟨?_,y⟩;rcases hp with ⟨c,_⟩ | ⟨k',aJ,c1,c2,_,c4⟩
  .rw [s] at c;cases c
  .rw [s] at c1;injection c1 with c1;rw [ad] at c2;injection c2 with c2;injection c2 with c2;rw [c4,<- c1,<- c2]
 have r:∀ W,BW W0.heap.size W0 W->CS prog 140 #[.pointer (some ⟨jb,0,none⟩),.pointer (some ⟨pb,i*2,none⟩),.int .i64 x.n.bm] W fun e w'=>e=.returned (.tuple #[])/\xo w T x (T.js.set k (jb,l.cg (Fb l.pl i x.n.bm))) w':=fun W hb=>by
  have hE:=a.low hb;obtain ⟨q1,q2⟩:=hE.tab.get b;exact (Wz q1 q2.parts i ac pb ad x.n.bm).mono fun e w' ⟨he,b1,b2,b3⟩=>⟨he,⟨hE.dj b b3 b1 b2 (Avn l i x.n.bm)⟩⟩
 rw [<- u,<- ht];rw [<- ht,<- hm] at aB;obtain ⟨⟨kd,ep,tk,cl,sq,jn,an,nn,y⟩,so,sn,sc,de⟩:=x;simp only at hj u d r;subst hj;have e5:=Bk a.box 5 (.int .i64 ((k:Int)+1)) rfl;have e6:=Bk a.box 6 (.int .i64 an) rfl;have e7:=Bk a.box 7 (.int .i64 nn) rfl;have e8:=Bk a.box 8 (.int .i64 y) rfl;have aI:(k:Int)<m:=by omega
 have aH:(0:Int)<=(k:Int):=by omega
 rw [hm.symm] at aC;replace ⟨h,ha,a,b,ht,hm,u,o⟩:=H8 h ha a b ht hm u o;replace ⟨am,ao,d,r,q,ac,ad,s⟩:=H8 am ao d r q ac ad s;clear c4 aE hk;go_enter func84,ntmps84;go_wp2_with fail;rw [<- al];clear al;go_quiet (fail);rename_i nq;go_upto_region 2 with fail;go_cut [] (fun wx=>xo w T ⟨⟨kd,ep,tk,cl,sq,(k:Int)+1,an,nn,y⟩,so,sn,sc,de⟩ (T.js.set k (jb,l.cg (Fb l.pl i y))) wx)
 case first=>
  go_region_with (first
   | (go_at_call 102;((with_reducible refine (d.out _ (A9 _ _ _)).mono ?_);rintro e w1 ⟨rfl,aF⟩;rw [aF]))
   | (go_at_call 140;((with_reducible refine (r.out _ (A9 _ _ _)).mono ?_);rintro e w1 ⟨rfl,aD⟩)))
  all_goals
   go_wp2_with fail;go_meet;exact aD
 case rest=>
  obtain ⟨z⟩:=hcut;have hX:(T.js.set k (jb,l.cg (Fb l.pl i y))).map (fun j=>j.2.pl)=X1:=by rw [Na T.js b.out (f:=J1 ⟨kd,ep,tk,cl,sq,(k:Int)+1,an,nn,y⟩) (by rw [ao.out];rfl),o.out];rfl
  have av:CS prog 134 #[.pointer (some ⟨tb,0,none⟩)] wc (Ki wc { T with js:=T.js.set k (jb,l.cg (Fb l.pl i y)) } (Gk X1)):=by
   have:=Aaj (T:={ T with js:=T.js.set k (jb,l.cg (Fb l.pl i y)) }) z.tab.at_ (by
    show D8 ((T.js.set k (jb,l.cg (Fb l.pl i y))).map fun j=>j.2.pl)
    rw [hX];exact am.out)
   rw [show ({ T with js:=T.js.set k (jb,l.cg (Fb l.pl i y)) }:Tv).pl.ab=X1 from hX] at this;rw [ht.out];exact this
  clear aB cj e5 e6 e7 e8;replace ⟨hX,av,z⟩:=H3 hX av z;go_wp2_with fail;refine av.mono ?_;rintro e w4 ⟨rfl,aG,aA,ap⟩
  have t:=z.then aA
  obtain ⟨r0,r1,r2⟩:=C3 t.res;(try dsimp only at r0 r1 r2);have fr:=Af t.res;replace ⟨aA,ap,t⟩:=H3 aA ap t;go_wp2;refine Ak (v:=Gv ⟨0,0,0,0⟩) (by simp [results,results84,go_sem,r0,r1,r2]) rfl ⟨rfl,aG,?_,ap.out⟩;exact t.pz h.out _ _ _
def If (w:WD) (js js':List (Nat×aj)):Prop:=∀ j,j∈js'->(0<j.2.sn->∀ k o,j.2.so=some ⟨k,o,none⟩->k<w.heap.size->∃ i,i∈js/\0<i.2.sn/\i.2.so=some ⟨k,o,none⟩)/\(0<j.2.gn->∀ k o,j.2.go=some ⟨k,o,none⟩->k<w.heap.size->∃ i,i∈js/\0<i.2.gn/\i.2.go=some ⟨k,o,none⟩)
def If.refl (w:WD) (js:List (Nat×aj)):If w js js:=fun j a=>⟨fun h _ _ e _=>⟨j,a,h,e⟩,fun h _ _ e _=>⟨j,a,h,e⟩⟩
def Bq.stays    (h:Bq w1 T js wr):If w T.js js:=fun j g=>by
 obtain ⟨i,d⟩:=Dg g;have b:i<T.js.length:=by rw [<- h.len];exact (Ao.1 d).1
 have k:=A4 b;have a:=h.kp i _ j k d;refine ⟨fun h0 _ _ e _=>⟨_,Lw b,by rw [<- a.sn];exact h0,by rw [<- a.so];exact e⟩,fun h0 _ _ e _=>?_⟩;rcases a.ak with ⟨f,c,_⟩ | ⟨_,c,_⟩
 .exact ⟨_,Lw b,by rw [<- c];exact h0,by rw [<- f];exact e⟩
 .omega
def If.trans  {a b c:List (Nat×aj)} (h:If w a b) (k:If w1 b c) (r:w.heap.size<=w1.heap.size):If w a c:=fun j m=>by
 obtain ⟨n,p⟩:=k j m;refine ⟨fun h0 q o e l=>?_,fun h0 q o e l=>?_⟩
 .obtain ⟨i,g,d,f⟩:=n h0 q o e (by omega);exact (h i g).1 d q o f l
 .obtain ⟨i,g,d,f⟩:=p h0 q o e (by omega);exact (h i g).2 d q o f l
structure Ed (w:WD) (T T':Tv) (w':WD):Prop where
 at_:An w' T'
 tb:T'.tb=T.tb
 fb:T'.fb=T.fb
 fm:T'.fm=T.fm
 fl:T'.fl=T.fl
 vs:T'.vs=T.vs
 aw:∀ b,T'.aw b->T.aw b\/w.heap.size<=b
 mod:Mod T.aw w w'
 dz:If w T.js T'.js
def Ps (w:WD) (T:Tv) (P:du) (c:Cl) (e:Ending) (w':WD):Prop:=e=.returned (Gv c)/\∃ T',Ed w T T' w'/\T'.pl=P
def Aix   {X:List Jb} {c:Cl} {e:Ending}  (h:Abt w T X c e w'):Ps w T (T.pl.ft X) c e w':=by
 obtain ⟨b,js,a,d⟩:=h;exact ⟨b,{ T with js:=js },⟨a.at_,rfl,rfl,rfl,rfl,rfl,a.aw,a.mod,a.stays⟩,by rw [<- d];rfl⟩
def Avq (j:Jb) (k:Nat) (a:Int):(M3 j k a).sp=j.sp/\(M3 j k a).ak=j.ak:=by
 unfold M3;split
 .exact ⟨rfl,rfl⟩
 .split<;>exact ⟨rfl,rfl⟩
def Avr (j:Jb) (a:Int) (n:Nat):(G5 j a n).sp=j.sp/\(G5 j a n).ak=j.ak:=by
 induction n with
 | zero=>exact ⟨rfl,rfl⟩
 | succ n ih=>
  obtain ⟨h1,b⟩:=Avq (G5 j a n) n a;exact ⟨h1.trans ih.1,b.trans ih.2⟩
def Abu (j:Jb) (a:Int):(Fc j a).sp=j.sp/\(Fc j a).ak=j.ak:=Avr _ _ _
def Aiy (x:aj) (a:Int):G7 x (x.cg (Fc x.pl a)):=by
 obtain ⟨h1,b⟩:=Abu x.pl a;exact ⟨rfl,rfl,rfl,by show (Fc x.pl a).sp.after=_;rw [h1],by show (Fc x.pl a).sp.user=_;rw [h1],by show (Fc x.pl a).sp.part=_;rw [h1],.inl ⟨rfl,rfl,rfl,b⟩,fun _ h=>h⟩
def An.xu   (h:An w T) (h0:0<T.nodes.length):∃ g cap,T.nv=.slice (some ⟨g,0,none⟩) T.nodes.length cap/\w.cell? ⟨T.tb,3,none⟩=some (.slice (some ⟨g,0,none⟩) T.nodes.length cap)/\T.nodes.length<=9223372036854775807:=by
 obtain ⟨g,cap,e⟩:=Joins.ownsRow_form h.nodes h0;refine ⟨g,cap,e,by rw [Aa h.head 3,<- e];rfl,?_⟩;rcases h.nodes.2 with ⟨_,c⟩ | ⟨f,a,b,c,_,_,h1,d,_⟩
 .omega
 .unfold maxLen at d;omega
def An.py   (h:An w T)  {n:Fa} (b:T.nodes[i]?=some n)  (e:T.nv=.slice (some ⟨g,0,none⟩) T.nodes.length cap):w.cell? ⟨g,i*3,none⟩=some (.bool n.up)/\w.cell? ⟨g,i*3+1,none⟩=some (.bool n.bq)/\w.cell? ⟨g,i*3+2,none⟩=some (.int .i64 n.since)/\∀ o,w.frozen? ⟨g,o,none⟩=false:=by
 have s:=(Ao.1 b).1;have c:=h.nodes;rw [e] at c;have a:∀ x:Fa,(Eb x).size=3:=fun _=>rfl;have f:=E6 c (i*3) (by omega);have k:=E6 c (i*3+1) (by omega);have l:=E6 c (i*3+2) (by omega);have d:=F2 a T.nodes (j:=0) b (by omega);have p:=F2 a T.nodes (j:=1) b (by omega);have q:=F2 a T.nodes (j:=2) b (by omega);rw [Io] at d;obtain ⟨m,r,_⟩:=Cq h.nodes (g:=g) (by rw [e];rfl);exact ⟨by rw [f,d];rfl,by rw [k,p];rfl,by rw [l,q];rfl,Af r⟩
def Cj.setNode   {x:cz} (h:Cj w T x T.js wr)  (e:T.nv=.slice (some ⟨g,0,none⟩) T.nodes.length cap) (i j:Nat) (v:VL) (f:Fa->Fa) (q:j<3) (p:∀ x:Fa,(Eb x).toList.set j v=(Eb (f x)).toList) :
  Cj w { T with nodes:=T.nodes.modify i f } x T.js (wr.setCell ⟨g,i*3+j,none⟩ v):=by
 have r:=h.tab.at_.nodes;have l:wr.ownsRow 0 119 3 (.slice (some ⟨g,0,none⟩) T.nodes.length cap) T.nodes.length (Au Eb T.nodes):=by have:wr.ownsRow 0 119 3 T.nv T.nodes.length (Au Eb T.nodes):=r;rw [e] at this;exact this
 have n:=Atz l (i*3+j) v;rw [At0 _ _ _ _ f q p] at n;have m:Mod (fun k=>({ T with js:=T.js }:Tv).nv.ownBlock=some k) wr (wr.setCell ⟨g,i*3+j,none⟩ v):=Mod.setCell _ _ _ _ (by show T.nv.ownBlock=some g;rw [e];rfl)
 have o:=An.qd (T:={ T with js:=T.js }) h.tab.at_ (T.nodes.modify i f) (Jp _ _ _) m (by
  rw [Jp];show (wr.setCell ⟨g,i*3+j,none⟩ v).ownsRow 0 119 3 T.nv _ _;rw [e]
  exact n)
 have d:∀ k,T.nv.ownBlock=some k->T.aw k:=fun k e=>.inr (.inr (.inl e));have a:=m.mono fun k _ e=>d k e;refine ⟨⟨o,rfl,fun b c=>.inl c,h.tab.mod.trans a,h.tab.kp⟩,a.ar h.box (h.tab.at_.off h.box (by decide) (by decide) (by decide) (by decide) (by decide)),a.ar h.res (h.tab.at_.off h.res (by decide) (by decide) (by decide) (by decide) (by decide))⟩
def Cj.iw  {T a:Tv} {x:cz}  (h:Cj w a x js wr) (h0:An w T) (d:a.js=T.js) (f:a.tb=T.tb) (s t u:VL):Bq w a js (((wr.setCell ⟨w.heap.size+1,0,none⟩ s).setCell ⟨w.heap.size+1,1,none⟩ t).setCell ⟨w.heap.size+1,2,none⟩ u):=by
 have q:=(((Mod.refl (fun k=>k=w.heap.size+1) wr).set _ 0 s rfl).set _ 1 t rfl).set _ 2 u rfl;refine ⟨h.tab.at_.fp h.res q (by show a.tb<_;rw [f];have:=Ab h0.head;omega) (by decide) (by decide) (by decide) (by decide) (by decide) (by decide) fun j v=>?_,h.tab.ar,h.tab.aw,h.tab.mod.then q (fun k c e=>by omega),h.tab.kp⟩;obtain ⟨i,n⟩:=Dg v;have p:i<a.js.length:=by rw [<- h.tab.len];exact (Ao.1 n).1
 have y:=A4 p;have c:=h.tab.kp i _ j y n;have g:a.js[i]∈T.js:=by rw [<- d];exact Lw p
 have r:=h0.ok _ g;refine ⟨fun b k o e=>?_,fun b k o e=>?_⟩
 .rw [c.sn] at b;rw [c.so] at e;have:=Ld r.after.row b e;omega
 .rcases c.ak with ⟨l,m,_⟩ | ⟨l,m,_⟩
  .rw [m] at b;rw [l] at e;have:=Ld r.ak.row b e;omega
  .omega
def Avs   (x:cz) (h:An w T):CS prog 81 #[.pointer (some ⟨T.tb,0,none⟩),x.val] w (Ps w T { T.pl with ah:=x.n.ah } ⟨0,0,0,0⟩):=by
 have a:=Cj.new h x;obtain ⟨f,i⟩:=Ex ((w.alloc (.cells x.cells 40 (0,0))).alloc (.cells #[.int .i64 0,.int .i64 0,.int .i64 0] 35 (0,0)));rw [<- i] at a;obtain ⟨g,m⟩:=Ex (T.tb);rw [<- m];have o:f.heap[g]?=some (.cells #[.int .i64 T.ah,.int .i64 T.tick,.map (some T.mb),T.nv,T.jv,.pointer (some ⟨T.fb,0,none⟩),T.cv] 115 (0,0)):=by rw [m];exact a.tab.at_.head
 have c0:=Bk o 0 (.int .i64 T.ah) rfl;have f0:=Af o;obtain ⟨⟨kd,d,tk,cl,sq,jn,an,nn,hw⟩,so,sn,sc,de⟩:=x;have e1:=Bk a.box 1 (.int .i64 d) rfl;obtain ⟨y,z,r2⟩:=C3 a.res;(try dsimp only at y z r2);have fr:=Af a.res;have l:g≠w.heap.size+1:=by rw [m];have:=Ab h.head;omega
 replace ⟨h,a,m,o,l⟩:=H5 h a m o l;go_enter func81,ntmps81;go_upto_region 1 with fail;rw [<- i];clear i;have p:=l.out;have q:=p.symm;have u:¬ (w.heap.size+1=g):=q;go_wp2;refine Ak (v:=Gv ⟨0,0,0,0⟩) (by simp [results,results81,go_sem,y,z,r2]) rfl ⟨rfl,?_⟩
 have r:Cj w { T with ah:=d } ⟨⟨kd,d,tk,cl,sq,jn,an,nn,hw⟩,so,sn,sc,de⟩ T.js (f.setCell ⟨g,0,none⟩ (.int .i64 d)):=by
  have t:Mod (fun k=>k=T.tb) f (f.setCell ⟨g,0,none⟩ (.int .i64 d)):=Mod.setCell _ _ _ _ m.out
  have hA:=a.tab.at_.og (w':=f.setCell ⟨g,0,none⟩ (.int .i64 d)) d T.tick t (by
   show (f.setCell ⟨g,0,none⟩ (.int .i64 d)).heap[T.tb]?=_;rw [<- m.out,Am o.out]
   rfl)
  have j:Mod T.aw f (f.setCell ⟨g,0,none⟩ (.int .i64 d)):=t.mono fun k _ e=>by rw [e];exact .inl rfl
  exact ⟨⟨hA,rfl,fun b c=>.inl c,a.tab.mod.trans j,a.tab.kp⟩,j.ar a.box (a.tab.at_.off a.box (by decide) (by decide) (by decide) (by decide) (by decide)),j.ar a.res (a.tab.at_.off a.res (by decide) (by decide) (by decide) (by decide) (by decide))⟩
 have s:=r.iw h.out rfl rfl (.int .i64 0) (.int .i64 0) (.int .i64 0);exact ⟨{ T with ah:=d },⟨s.at_,rfl,rfl,rfl,rfl,rfl,s.aw,s.mod,If.refl _ _⟩,rfl⟩
def Av4 {α:Type} (l:List α) (i:Nat) (f g:α->α):(l.modify i f).modify i g=l.modify i fun x=>g (f x):=by
 apply Ea;intro k;rw [Ev,Ev,Ev];by_cases h:i=k
 .simp [h,Ik]
 .simp [h]
def Av5   (x:cz) (h:An w T) (ha:D8 T.pl.ab) (i:Nat) (hi:i<T.nodes.length) (aQ:x.n.node=(i:Int)) (aV:8<=x.n.kind/\x.n.kind<=11) :
  CS prog 85 #[.pointer (some ⟨T.tb,0,none⟩),x.val] w (Ps w T (N9 T.pl x.n) ⟨0,0,0,0⟩):=by
 have d:=Cj.new h x;obtain ⟨W0,s⟩:=Ex ((w.alloc (.cells x.cells 40 (0,0))).alloc (.cells #[.int .i64 0,.int .i64 0,.int .i64 0] 35 (0,0)));rw [<- s] at d;obtain ⟨g,cap,av,c3,aA⟩:=An.xu (T:={ T with js:=T.js }) d.tab.at_ (by show 0<T.nodes.length;omega);have o:=av;have aN:=c3;have aG:=aA;obtain ⟨nd,aI⟩:=Ge T.nodes i hi;obtain ⟨n0,n1,n2,fn⟩:=An.py (T:={ T with js:=T.js }) d.tab.at_ aI av;obtain ⟨tb,ht⟩:=Ex (T.tb);obtain ⟨m,hm⟩:=Ex (T.nodes.length);obtain ⟨P,hP⟩:=Ex (N9 T.pl x.n);rw [<- ht,<- hP];rw [<- ht,<- hm] at aN;rw [<- hm] at aG
 have ao:g≠w.heap.size+1:=fun e=>by
  have:=d.tab.at_.off d.res (by decide) (by decide) (by decide) (by decide) (by decide);exact this (.inr (.inr (.inl (by show T.nv.ownBlock=_;rw [o,e];rfl))))
 obtain ⟨⟨kd,ep,tk,cl,sq,jn,an,nn,hw⟩,so,sn,sc,de⟩:=x;simp only at aQ aV;subst aQ;have e0:=Bk d.box 0 (.int .i64 kd) rfl;have e2:=Bk d.box 2 (.int .i64 tk) rfl;have e7:=Bk d.box 7 (.int .i64 (i:Int)) rfl;obtain ⟨r0,r1,r2⟩:=C3 d.res;(try dsimp only at r0 r1 r2);have fr:=Af d.res;have a1:(i:Int)<m:=by omega
 have a0:(0:Int)<=(i:Int):=by omega
 have aU:¬ (g=w.heap.size+1):=ao;clear c3 aA ao;replace ⟨h,ha,d,av,o,aI,ht,hm⟩:=H8 h ha d av o aI ht hm;replace hP:=Hh hP;by_cases q8:kd=8
 .subst q8;obtain ⟨aS,aP,ap,aZ,aH,_⟩:=h.mm;obtain ⟨mj,z⟩:=Ex (T.js.length);obtain ⟨r,a⟩:∃ r:Tv,r={ T with nodes:=T.nodes.modify i (fun n=>⟨false,n.bq,n.since⟩) }:=⟨_,rfl⟩;have l:P={ r.pl with ab:=Gk (r.pl.ab.map fun j=>Fc j (i:Int)) }:=by rw [hP.out,a];unfold N9;rw [Ad rfl];show _=_;simp only [J8];rfl
  have row:∀ (js:List (Nat×aj)) (W:WD),Cj w r ⟨⟨8,ep,tk,cl,sq,jn,an,(i:Int),hw⟩,so,sn,sc,de⟩ js W->∀ k,k<mj->∃ g j,aS=some ⟨g,0,none⟩/\js[k]?=some j/\W.cell? ⟨g,k,none⟩=some (.pointer (some ⟨j.1,0,none⟩)):=fun js W hW k hk=>by
   have hl:js.length=mj:=(by rw [z,hW.tab.len,a]);obtain ⟨j,hj⟩:=Ge js k (by omega);obtain ⟨aY,aO,e1,_,_,hr⟩:=hW.tab.at_.mm;obtain ⟨g,e2,hc⟩:=hr k j hj;have e3:T.jv=.slice aY js.length aO:=(by rw [<- e1,a]);rw [ap] at e3;injection e3 with e3 _ _;exact ⟨g,j,e3.trans e2,hj,hc⟩
  have c4:W0.cell? ⟨tb,4,none⟩=some (.slice aS mj aP):=by rw [ht.out,Aa d.tab.at_.head 4,z,<- ap];rfl
  rw [z.symm] at aH;have al:D8 r.pl.ab:=by rw [a];exact ha.out
  have aC:r.pl.ab.length=mj:=by rw [z,a];simp [Tv.pl]
  replace ⟨ap,z,l,row,al,aC⟩:=H6 ap z l row al aC;go_enter Vz,Vy;go_wp2_with fail;rw [<- s];clear s;go_quiet (fail);rename_i nq;have q:Cj w r ⟨⟨8,ep,tk,cl,sq,jn,an,(i:Int),hw⟩,so,sn,sc,de⟩ r.js ((W0.drewN nq).setCell ⟨g,i*3,none⟩ (.bool false)):=by rw [a];exact (d.low (A9 _ W0 nq)).setNode o.out i 0 (.bool false) (fun n=>⟨false,n.bq,n.since⟩) (by omega) (fun _=>rfl)
  replace ⟨q,a⟩:=H2 q a;go_wp2;generalize (W0.drewN nq).setCell ⟨g,i*3,none⟩ (.bool false)=W2 at q ⊢;clear c4 aN n0 n1 n2 fn e0 e2 e7 r0 r1 r2 fr aU;go_loopw [7,35] (fun _ i2 wr=>∃ (k:Nat) (js:List (Nat×aj)),i2=.int .i64 k/\k<=mj/\Hid (Cj w r ⟨⟨8,ep,tk,cl,sq,jn,an,(i:Int),hw⟩,so,sn,sc,de⟩ js wr)/\Hid (js.map (fun j=>j.2.pl)=D9 (fun j=>Fc j (i:Int)) r.pl.ab k)) (fun _ i2 _=>mj-(intOf i2).toNat)
  case atStart=>exact ⟨0,r.js,rfl,Aq _,q.out,rfl⟩
  case round=>
   obtain ⟨k,js,rfl,hk,hE,hX⟩:=hrel;by_cases hc:k<mj
   .have aT:(k:Int)<mj:=(by omega);have a2:(0:Int)<=(k:Int):=(by omega);obtain ⟨g2,j,rfl,hj,cr⟩:=row _ _ hE.out k hc;obtain ⟨jb,jx⟩:=j;obtain ⟨aD,aJ⟩:=hE.tab.get hj;have e7:=Bk hE.box 7 (.int .i64 (i:Int)) rfl;have aE:=Afj aD aJ.parts (i:Int);replace ⟨hj,aD,aJ,aE⟩:=H4 hj aD aJ aE;go_wp2_with fail;refine aE.mono ?_;rintro e w3 ⟨rfl,hG⟩;have ac:=hE.dj hj.out hG.mod hG.box hG.parts (Aiy jx (i:Int));have aB:(js.set k (jb,jx.cg (Fc jx.pl (i:Int)))).map (fun j=>j.2.pl)=D9 (fun j=>Fc j (i:Int)) r.pl.ab (k+1):=(by rw [Na js hj.out (f:=fun j=>Fc j (i:Int)) rfl,hX.out];rfl);clear hG;replace ⟨ac,aB⟩:=H2 ac aB;go_wp2;go_roundw
    case rel=>exact ⟨k+1,_,by go_num,by omega,ac.out,aB.out⟩
    case measure=>simp [intOf];omega
   .have aT:¬ (k:Int)<mj:=(by omega);have aF:k=mj:=(by omega);have y:=hX.out;rw [aF,<- aC.out,R8] at y;obtain ⟨X2,t⟩:=Ex (r.pl.ab.map fun j=>Fc j (i:Int));rw [<- t] at y;have am:D8 X2:=by rw [t,<- R8];exact Qi al.out (W8 _ (fun j=>(Abu j _).1) _ _)
    have aL:CS prog 134 #[.pointer (some ⟨tb,0,none⟩)] wr (Ki wr { r with js:=js } (Gk X2)):=by
     have:=Aaj (T:={ r with js:=js }) hE.tab.at_ (by
      show D8 (js.map fun j=>j.2.pl)
      rw [y];exact am)
     rw [show ({ r with js:=js }:Tv).pl.ab=X2 from y] at this;rw [show tb=({ r with js:=js }:Tv).tb from by rw [ht.out,a.out]];exact this
    replace ⟨y,t,am,aL,aF⟩:=H5 y t am aL aF;go_wp2_with fail;refine aL.mono ?_;rintro e w4 ⟨rfl,aW,aM,aK⟩
    have ad:=hE.then aM
    obtain ⟨r0,r1,r2⟩:=C3 ad.res;(try dsimp only at r0 r1 r2);have fr:=Af ad.res;replace ⟨aM,aK,ad⟩:=H3 aM aK ad;go_wp2;refine Ak (v:=Gv ⟨0,0,0,0⟩) (by simp [results,results85,go_sem,r0,r1,r2]) rfl ⟨rfl,?_⟩;have u:=ad.iw h.out (by rw [a.out]) (by rw [a.out]) (.int .i64 0) (.int .i64 0) (.int .i64 0);refine ⟨{ r with js:=aW },⟨u.at_,by rw [a.out],by rw [a.out],by rw [a.out],by rw [a.out],by rw [a.out],?_,?_,?_⟩,?_⟩
    .intro b c;have:=u.aw b c;rw [a.out] at this;exact this
    .have:=u.mod;rw [a.out] at this;exact this
    .have:=u.stays (w:=w);rw [a.out] at this;exact this
    .rw [l.out,<- t.out,<- aK.out];rfl
 .by_cases q9:kd=9
  .subst q9;have l:P={ T.pl with nodes:=T.pl.nodes.modify (i:Int).toNat (fun n=>⟨true,n.bq,tk⟩) }:=(by rw [hP.out];rfl);replace ⟨l,q8⟩:=H2 l q8;go_enter Vz,Vy;go_wp2_with fail;rw [<- s];clear s;go_quiet (fail);rename_i nq;have p:=d.low (A9 _ W0 nq);replace p:=Hh p;go_wp2_with fail;go_region_with (fail)
   all_goals
    go_wp2;refine Ak (v:=Gv ⟨0,0,0,0⟩) (by simp [results,results85,go_sem,r0,r1,r2]) rfl ⟨rfl,?_⟩;have q:=(d.low (A9 _ W0 (nq+1))).setNode o.out i 0 (.bool true) (fun n=>⟨true,n.bq,n.since⟩) (by omega) (fun _=>rfl);have ac:=Cj.setNode (T:={ T with nodes:=T.nodes.modify i (fun n=>⟨true,n.bq,n.since⟩) }) q (by show T.nv=_;rw [Jp];exact o.out) i 2 (.int .i64 tk) (fun n=>⟨n.up,n.bq,tk⟩) (by omega) (fun _=>rfl);have u:=ac.iw h.out rfl rfl (.int .i64 0) (.int .i64 0) (.int .i64 0);exact ⟨{ T with nodes:=(T.nodes.modify i (fun n=>⟨true,n.bq,n.since⟩)).modify i (fun n=>⟨n.up,n.bq,tk⟩) },⟨u.at_,rfl,rfl,rfl,rfl,rfl,u.aw,u.mod,If.refl _ _⟩,by rw [l.out,J8,Av4];rfl⟩
  .by_cases aR:kd=10
   .subst aR;have l:P={ T.pl with nodes:=T.pl.nodes.modify (i:Int).toNat (fun n=>⟨n.up,true,n.since⟩) }:=(by rw [hP.out];rfl);replace ⟨l,q8,q9⟩:=H3 l q8 q9;go_enter Vz,Vy;go_wp2_with fail;rw [<- s];clear s;go_quiet (fail);rename_i nq;have p:=d.low (A9 _ W0 nq);replace p:=Hh p;go_wp2;refine Ak (v:=Gv ⟨0,0,0,0⟩) (by simp [results,results85,go_sem,r0,r1,r2]) rfl ⟨rfl,?_⟩;have q:=p.setNode o.out i 1 (.bool true) (fun n=>⟨n.up,true,n.since⟩) (by omega) (fun _=>rfl);have u:=q.iw h.out rfl rfl (.int .i64 0) (.int .i64 0) (.int .i64 0);exact ⟨{ T with nodes:=T.nodes.modify i (fun n=>⟨n.up,true,n.since⟩) },⟨u.at_,rfl,rfl,rfl,rfl,rfl,u.aw,u.mod,If.refl _ _⟩,by rw [l.out,J8];rfl⟩
   .have aX:kd=11:=(by omega);clear aR;subst aX;have l:P={ T.pl with nodes:=T.pl.nodes.modify (i:Int).toNat (fun n=>⟨n.up,false,n.since⟩) }:=(by rw [hP.out];rfl);replace ⟨l,q8,q9⟩:=H3 l q8 q9;go_enter Vz,Vy;go_wp2_with fail;rw [<- s];clear s;go_quiet (fail);rename_i nq;have p:=d.low (A9 _ W0 nq);replace p:=Hh p;go_wp2;refine Ak (v:=Gv ⟨0,0,0,0⟩) (by simp [results,results85,go_sem,r0,r1,r2]) rfl ⟨rfl,?_⟩;have q:=p.setNode o.out i 1 (.bool false) (fun n=>⟨n.up,false,n.since⟩) (by omega) (fun _=>rfl);have u:=q.iw h.out rfl rfl (.int .i64 0) (.int .i64 0) (.int .i64 0);exact ⟨{ T with nodes:=T.nodes.modify i (fun n=>⟨n.up,false,n.since⟩) },⟨u.at_,rfl,rfl,rfl,rfl,rfl,u.aw,u.mod,If.refl _ _⟩,by rw [l.out,J8];rfl⟩
def Av6 (w:WD):(zeroValue 123).run prog w=.ok (Ir Cl.zero) w:=by kernel_rfl
def xw {n:Int} (h1:-9223372036854775808<=n) (a:n<=9223372036854775807):(Lit.int .i64 n).wf=true:=by
 simp [Lit.wf,IntKind.min,IntKind.max,IntKind.signed,IntKind.bits];omega
def Ai5  {d:Nat} {l:List (Int×Cl)} (h:L6 w d l) {a:Int} (h1:-9223372036854775808<=a) (f:a<=9223372036854775807):(Instr.lookup 108 (.map (some d)) (.int .i64 a) false).run prog w=.ok (Ir (Kf l a)) w:=by
 obtain ⟨v,g,b,c⟩:=World.ownsMap.lookup h (int_keyed D2) underlying108 (Av6 w) (Aeq Cl.zero) (keyOf_int_mk D2 (xw h1 f))
 have:v=Ir (Kf l a):=by have e:=Aof l a;unfold F3 at e;rw [e] at c;exact Aoc c
 rw [b,this]
def Ai6:(prog.info? 65).map (fun i=>(i.zero,i.size,i.bytes))=some (some (.agg #[.int .i64 0,.int .i64 0]),2,16):=by kernel_rfl
def X4 (w:WD) (x:aj) (e:Ending) (w':WD):Prop:=∃ po pc,e=.returned (.slice po x.pn pc)/\w'.ownsRow w.heap.size 65 2 (.slice po x.pn pc) x.pn (Au E1 x.pl.parts)/\BW w.heap.size w w'
def Awa  {x:aj} (h:Bv w x) (hn:x.pn<=1000000):CS prog 88 #[.slice x.po x.pn x.pc] w (X4 w x):=by
 obtain ⟨i0,hi,y,z,ac⟩:=Cb Ai6;have q:=Jt h;have mx:maxLen=9223372036854775807:=by kernel_rfl
 have qN:∀ (w:WD) (a:Option Addr) (n c n' c':Nat),(binOp .eql 44 (.slice a n c) (.slice none n' c')).run prog w=.ok (.bool a.isNone) w:=fun w a n c n' c'=>Lib.run_eql_slice_nil w _ _ a n c n' c' Y7;obtain ⟨n,m⟩:=Ex (x.pn);rcases h.2 with ⟨e,h0⟩ | ⟨g,cap,aB,e,_,hg,ap,an,ao,av⟩
 .simp at e;obtain ⟨e1,e2,e3⟩:=e;have t:x.pl.parts=[]:=List.eq_nil_of_length_eq_zero (by omega);rw [e1,e2,e3];have d:X4 w x (.returned (.slice none 0 0)) w:=⟨none,0,by rw [e2],by rw [e2,t];exact Lv _ _ _ _,Below.refl _ _⟩;clear hi y z ac m;replace ⟨d,h,e1,e2,e3,t,q,h0⟩:=H8 d h e1 e2 e3 t q h0;replace hn:=Hh hn;go_enter func88,ntmps88;go_wp2;go_ret;exact d.out
 .simp at e;obtain ⟨e1,e3⟩:=e;have v:BW w.heap.size w (w.alloc (.cells #[] 65)):=Bn;have o:(w.alloc (.cells #[] 65)).ownsRow w.heap.size 65 2 (.slice (some ⟨w.heap.size,0,none⟩) 0 0) 0 []:=⟨rfl,.inr ⟨w.heap.size,0,#[],rfl,Nat.le_refl _,Ah _ _,Nat.le_refl _,by omega,rfl,rfl⟩⟩
  have ad:=fun j u hu=>by
   have h2:(w.alloc (.cells #[] 65)).ownsRow 0 65 2 (.slice x.po x.pn x.pc) x.pn (Au E1 x.pl.parts):=Bv.low h v;exact World.ownsRow.cells h2 (g:=g) (by rw [e1];rfl) j u hu
  have al:(Au E1 x.pl.parts).length=n*2:=by rw [Afi,q,m]
  have s:∀ u∈Au E1 x.pl.parts,u.oneCell'=true:=fun u hu=>by
   unfold Au at hu;obtain ⟨p,_,t⟩:=List.mem_flatMap.1 hu;simp at t
   rcases t with rfl | rfl<;>rfl
  have d:∀ po pc W,W.ownsRow w.heap.size 65 2 (.slice po n pc) n (Au E1 x.pl.parts)->BW w.heap.size w W->X4 w x (.returned (.slice po n pc)) W:=fun po pc W a b=>⟨po,pc,by rw [m],by rw [m] at a;exact a,b⟩;rw [e1,<- m];obtain ⟨pc,am⟩:=Ex (x.pc);rw [<- am];have aC:n<=1000000:=by omega
  replace ⟨d,h,e1,e3,q,hn,hi,y⟩:=H8 d h e1 e3 q hn hi y;replace ⟨z,ac,v,o,ad,al,s,m⟩:=H8 z ac v o ad al s m;replace ⟨hg,ap,an,ao,av,am⟩:=H6 hg ap an ao av am;go_enter func88,ntmps88;go_wp2_with (at_builtin;refine Ms _ rfl _ _ 44 rfl w.heap.size 65 i0 (.agg #[.int .i64 0,.int .i64 0]) 2 16 Y7 hi.out y.out z.out ac.out rfl (by decide) _ _ _ rfl o.out ⟨g,0,none⟩ n pc (Au E1 x.pl.parts) rfl al.out ad.out s.out ?c3 ?c4 ?c5 ?c6)
  case c3=>omega
  case c4=>omega
  case c5=>simp
  case c6=>
   intro v' w2 f i r;have l:=v.grown i (by simp) (fun k hk=>(o.lt k hk).1);rcases Joins.ownsRow_forms f with ⟨rfl,h0⟩ | ⟨g2,aA,rfl⟩
   .exact absurd rfl r
   .have t:=d _ _ w2 f l;replace ⟨f,i,l,t,r⟩:=H5 f i l t r;go_wp2;go_ret;exact t.out
def Aw6   (h:An w T)  {j:Nat×aj} (hj:T.js[i]?=some j) (hr:∀ f,f∈j.2.pl.sp.after->1<=f/\f<=(T.js.length:Int)) :
  CS prog 189 #[.pointer (some ⟨T.tb,0,none⟩),.pointer (some ⟨j.1,0,none⟩)] w fun e w'=>e=.returned (.bool (Js T.pl.ab j.2.pl))/\BW w.heap.size w w':=by
 have b:=Ai hj;have cs:=Bk (h.box j b) 13 (.slice j.2.so j.2.sn j.2.sc) rfl;have ct:=Bk (h.box j b) 14 (.int .i64 j.2.pl.lf.st) rfl;have ai:=(h.ok j b).after.row;obtain ⟨z,c⟩:=Ex (w.alloc (.cells #[.pointer (some ⟨T.tb,0,none⟩)] 27 (0,0)));have a:BW w.heap.size w z:=by rw [c];exact Bn
 have x:z.cell? ⟨w.heap.size,0,none⟩=some (.pointer (some ⟨T.tb,0,none⟩)):=by rw [c];exact Aa (Ah _ _) 0
 have p:w.heap.size<z.heap.size:=by rw [c];simp
 have l:=(Ag a (Ab (h.box j b))).trans cs;have m:=(Ag a (Ab (h.box j b))).trans ct
 have g:=Afa 247 #[.pointer (some ⟨w.heap.size,0,none⟩)] (fun f=>!decide (L4 T.pl.ab f=5)) j.2.so j.2.sn j.2.sc j.2.pl.sp.after z (ai.low a) Aup (fun f ac w1 o=>by
  obtain ⟨h1,h2⟩:=hr f ac;obtain ⟨k,rfl⟩:∃ k:Nat,f=(k:Int)+1:=⟨(f-1).toNat,by omega⟩
  exact (Auq ((h.low a).low o) w.heap.size ((Ag o p).trans x) k (by omega)).mono fun e w' ⟨he,hw⟩=>⟨he,by rw [hw];exact Below.refl _ _⟩)
 obtain ⟨q,hq⟩:=Ex ((j.2.pl.sp.after.any fun f=>!decide (L4 T.pl.ab f=5)));have hz:Js T.pl.ab j.2.pl=(decide (j.2.pl.lf.st=1) && !q):=by rw [hq];unfold Js;rw [List.all_eq_not_any_not]
 rw [<- hq] at g;rw [hz];obtain ⟨tb,y⟩:=Ex (T.tb);obtain ⟨jb,n⟩:=Ex (j.1);obtain ⟨so,u⟩:=Ex (j.2.so);obtain ⟨sn,t⟩:=Ex (j.2.sn);obtain ⟨sc,s⟩:=Ex (j.2.sc);obtain ⟨st,v⟩:=Ex (j.2.pl.lf.st);rw [<- u,<- t,<- s] at g l;rw [<- n] at l m;rw [<- v] at m ⊢;rw [c,<- y] at g;rw [c,<- y] at a l m;rw [<- y,<- n];clear hq hz ai cs ct x p c u t s n y h hj hr b v;by_cases r:st=1
 .subst r;replace ⟨g,a⟩:=H2 g a;go_enter func189,ntmps189;go_wp2_with fail;refine (g.out).mono ?_;rintro e w' ⟨rfl,hb⟩;have d:=a.trans (hb.mono a.size);replace ⟨d,hb⟩:=H2 d hb;go_wp2;go_ret;exact ⟨by simp,d.out⟩
 .replace ⟨g,a⟩:=H2 g a;go_enter func189,ntmps189;go_wp2_with fail
  all_goals
   go_ret;exact ⟨by simp [r],a.out⟩
end
section
open Go.ChangeShapes Go.WideShapes Go.ChangeAt Go.RowKit
def Ayv:prog.cellsOf 38=1:=by kernel_rfl
def Aku:prog.cellsOf 40=10:=by kernel_rfl
def Ayw {α:Type} {l:List α} (h:l.length=10):∃ a b c d e f g i j k,l=[a,b,c,d,e,f,g,i,j,k]:=by
 match l,h with
 | [a,b,c,d,e,f,g,i,j,k],_=>exact ⟨a,b,c,d,e,f,g,i,j,k,rfl⟩
abbrev S2 (w:WD) (so:Option Addr) (n:Nat) (xs:List cz):Prop:=Aen cz.cells 10 cz.ok w so n xs
def S2.low {w w':WD} {so:Option Addr} {n:Nat} {xs:List cz} (h:S2 w so n xs) (c:BW w.heap.size w w'):S2 w' so n xs:=
 ⟨h.len,h.max,fun i x l=>by
  obtain ⟨b,d,e,a,f,k⟩:=h.cell i x l
  exact ⟨b,d,e,Bx a c.size,fun j g=>(Ag c a).trans (f j g),k.low c⟩⟩
section
variable {H:Type} {enc:TypeId×VL->H} {w:WD} {held:Bool} {fuel:Nat} {cs:List VL} {x:DataW H×List MemPlace}
def Ayx {c:VL} (h:DataW.trod enc prog w 0 (fun _=>true) held fuel 38 [c]=some x):∃ a n b xs,c=.slice a n b/\Jw w a n xs/\n<=b:=by
 obtain ⟨a,n,b,xs,e,d,f⟩:=Z6 ay.zero ay.cells 13 (fun w s=>s.ok w) underlying38 Akt (by decide) (fun _=>rfl) (fun fuel cs x h=>Ayu h) h;exact ⟨a,n,b,xs,e,⟨d.len,d.max,d.cell⟩,f⟩
def Ayy (h:DataW.trod enc prog w 0 (fun _=>true) held fuel 40 cs=some x):∃ a:cz,cs=a.cells.toList/\a.ok w:=by
 obtain ⟨xs,n,_,rfl,hl,c,b⟩:=DataW.trod_struct underlying40 h;rw [Aku] at hl;obtain ⟨c0,c1,c2,c3,c4,c5,c6,c7,c8,c9,rfl⟩:=Ayw hl
 match xs,c with
 | [y0,y1,y2,y3,y4,y5,y6,y7,y8,y9],_=>
  have h0:=b 0 _ rfl;have h1:=b 1 _ rfl;have r:=b 2 _ rfl;have s:=b 3 _ rfl;have t:=b 4 _ rfl;have u:=b 5 _ rfl;have v:=b 6 _ rfl;have y:=b 7 _ rfl;have z:=b 8 _ rfl;have h9:=b 9 _ rfl;simp [Qc,Ayv] at h0 h1 r s t u v y z h9;obtain ⟨n0,e,_,w0⟩:=In D2 h0;obtain ⟨n1,f,_,w1⟩:=In D2 h1;obtain ⟨n2,g,_,w2⟩:=In D2 r;obtain ⟨n3,j,_,w3⟩:=In D2 s;obtain ⟨n4,k,_,w4⟩:=In D2 t;obtain ⟨n5,l,_,w5⟩:=In D2 u;obtain ⟨n6,o,_,w6⟩:=In D2 v;obtain ⟨n7,p,_,w7⟩:=In D2 y;obtain ⟨n8,q,_,w8⟩:=In D2 z;obtain ⟨so,m,cp,zs,rfl,hz,d⟩:=Ayx h9;simp at e f g j k l o p q;subst e f g j k l o p q;refine ⟨⟨⟨n0,n1,n2,n3,n4,n5,n6,n7,n8⟩,so,m,cp,zs⟩,rfl,⟨hz,d,fun i=>?_⟩⟩;have b0:=On w0;have b1:=On w1;have b2:=On w2;have b3:=On w3;have b4:=On w4;have b5:=On w5;have b6:=On w6;have b7:=On w7;have b8:=On w8;unfold cu.get
  split<;>first | assumption | omega
end
section
variable {H:Type} {enc:TypeId×VL->H} {w:WD} {held:Bool} {b0:Nat} {r:Reach} {v:VL} {d:DataW H} {p:List MemPlace}
end
end
section
open Go.ChangeShapes Go.WideShapes Go.ChangeAt Go.RowKit
variable {H:Type} {enc:TypeId×VL->H} {w:WD} {held:Bool} {b0:Nat} {r:Reach} {v:VL} {d:DataW H} {p:List MemPlace}
def A1b (k:Value.okWide prog w r b0 51 v) (h:DataW.Trod enc prog w 0 (fun _=>true) held 51 v d p):∃ a n b xs,v=.slice a n b/\S2 w a n xs/\n<=b:=by
 obtain ⟨f,g⟩:=h
 have c:v.cells.toList=[v]:=by
  simp only [Value.okWide,underlying51,Cell.okWide] at k
  cases v<;>simp_all [Value.cells,Cell.ok]
 rw [c] at g;obtain ⟨a,n,b,xs,e,j,i⟩:=Z6 (⟨⟨0,0,0,0,0,0,0,0,0⟩,none,0,0,[]⟩:cz) cz.cells 10 (fun w s=>s.ok w) underlying51 Aku (by decide) (fun _=>rfl) (fun _ _ _ h=>Ayy h) g;exact ⟨a,n,b,xs,e,j,i⟩
