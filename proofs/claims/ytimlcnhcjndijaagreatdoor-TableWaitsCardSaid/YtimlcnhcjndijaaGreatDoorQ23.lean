/- Parts Tb1, Rdy, Ask, Asw, Ovw, Trn, Trw, Rds, Cpy, Cop, Lst, Jbs, Rea. Plain theorems: no condition. -/
import Derived.Test.YtimlcnhcjndijaaGreatDoorQ18
import Derived.Test.YtimlcnhcjndijaaGreatDoorQ22
set_option linter.all false
set_option maxRecDepth 100000
set_option maxHeartbeats 3200000
namespace Go.Proofs.YtimlcnhcjndijaaGreatDoor
def N4 (s:dp) (after:List Int) (id:Int):Jb:=⟨id,{ s with array:=1,after:=after },(J3 s.ae s.held).1,-1,[],[]⟩
def Iw (s:dp) (after:List Int) (js:List Jb):Nat->List Jb
 | 0=>js
 | n+1=>Iw s after js n++[N4 s after ((js.length+n+1:Nat):Int)]
def Ev:List (dp×List Int)->List Jb->List Jb
 | [],js=>js
 | p :: l,js=>Ev l (Iw p.1 p.2 js p.1.array.toNat)
def Ie (l:List dp):Int:=(l.map fun s=>s.array).foldl (·+·) 0
def R2 (ns:List Er) (i:Int):Er:=(ns[i.toNat]?).getD ⟨false,false,-1⟩
def La (t:di) (e:bz):Int:=
 if (t.nodes.length:Int)<=e.node then 142
 else if e.kind=8\/e.kind=9 then (if e.tick<t.tick then 141 else if (R2 t.nodes e.node).up≠decide (e.kind=8) then 100 else 0)
 else if e.kind=10\/e.kind=11 then (if (R2 t.nodes e.node).bo≠decide (e.kind=11) then 100 else 0)
 else 0
def Ew (js:List Jb) (id:Int):Jb:=(js[(id-1).toNat]?).getD ⟨0,dp.zero,Lf.zero,0,[],[]⟩
def Jo (t:di) (e:bz):Int:=
 if (t.ab.length:Int)<e.bp then 90
 else if e.kind≠7 then (Ay (Ew t.ab e.bp).lf (Gg e.kind)).2
 else if Gd (Ew t.ab e.bp) e.attempt e.node=none then 100 else 0
def di.eh (t:di) (js:List Jb):di:={ t with ab:=js }
def Fn (js:List Jb) (id:Int) (f:Jb->Jb):List Jb:=js.modify (id-1).toNat f
def L8 (s:Int) (j:Jb):Jb:=if df (j.move s).lf.st=true then j.move s else (j.move s).bare
def Adi (t:di) (e:bz):di×Cl:=(t.eh (Dw (Fn t.ab e.bp (L8 (Gg e.kind)))),⟨0,0,e.bp,e.bp⟩)
def L9 (e:bz) (j:Jb):Jb:=match Gd j e.attempt e.node with
 | none=>j
 | some k=>Fi j k e.bj
def Adj (t:di) (e:bz):di:=t.eh (Is (Fn t.ab e.bp (L9 e)))
def Qc (t:di) (e:bz):di:=
 if e.kind=8 then { t with nodes:=t.nodes.modify e.node.toNat (fun n=>⟨false,n.bo,n.since⟩),ab:=Is (t.ab.map fun j=>Fj j e.node) }
 else if e.kind=9 then { t with nodes:=t.nodes.modify e.node.toNat (fun n=>⟨true,n.bo,e.tick⟩) }
 else { t with nodes:=t.nodes.modify e.node.toNat (fun n=>⟨n.up,decide (e.kind=10),n.since⟩) }
def Kg (j:Jb):V4:=K7 { j.sp with after:=[] }
def C8 (js:List Jb):List dy:=(js.filter fun j=>j.live).map fun j=>⟨j.sp.user,Kg j⟩
def E7 (js:List Jb):List (List Int×V4×Int):=(js.filter fun j=>j.live).map fun j=>((j.parts.filter fun p=>decide (p.2=0)).map Prod.fst,j.sp.dn,L1 j)
def Bi (js:List Jb):List cz:=(js.filter fun j=>Ji js j).map fun j=>⟨j.id,j.sp.user,j.sp.prio,Kg j⟩
def If (t:Int) (j:Jb):Jb:=if j.live=true/\L1 j<=t then Fj j (-1) else j
def nf (t:di):List Bool:=t.nodes.map fun n=>n.up && !n.bo && decide (n.since<t.tick)
def F4 (j:Jb):Jb:=if j.lf.st=1 then j.bare else j
def Lb (tick st:Int) (zs:List Int) (j:Jb):Jb:=
 if st=tick then ⟨j.id,j.sp,(Ay j.lf 3).1,st,zs,j.parts++zs.map fun n=>(n,0)⟩ else ⟨j.id,j.sp,j.lf,st,zs,j.parts⟩
def Gh (tick:Int):List (Int×Int×List Int)->List Jb->List Jb
 | [],js=>js
 | s :: l,js=>Gh tick l (Fn js s.1 (Lb tick s.2.1 s.2.2))
open Go.RowKit Go.Maps
def Z8 (j:Jb):Prop:=-1<=j.start/\j.start<=1099511627776/\0<=j.sp.wall/\j.sp.wall<=1099511627776
def Agd {w:World} {b:Nat} {x:ai} (d:A9 w b x) (g:Z8 x.pl):Calls Tryz.prog 132 #[.pointer (some ⟨b,0,none⟩)] w fun e w'=>e=.returned (.int .i64 (L1 x.pl))/\∃ n,w'=w.drewN n:=by
 obtain ⟨h1,h,i,j⟩:=g;obtain ⟨s,a⟩:=Ex (x.pl.start);obtain ⟨v,c⟩:=Ex (x.pl.sp.wall);have k:w.cell? ⟨b,19,none⟩=some (.int .i64 s):=by rw [a];exact Aa d 19
 have l:w.cell? ⟨b,8,none⟩=some (.int .i64 v):=by rw [c];exact Aa d 8
 have f:L1 x.pl=s+8+v:=by rw [a,c];rfl
 rw [<- a] at h1 h;rw [<- c] at i j;have w1:IntKind.i64.wrap (s+8)=s+8:=F5 (by omega) (by omega);have m:IntKind.i64.wrap (s+8+v)=s+8+v:=F5 (by omega) (by omega);replace ⟨d,f,a,c⟩:=H4 d f a c;go_enter Tryz.func132,Tryz.ntmps132;go_upto_region 1 with fail;go_quiet (fail);go_wp2_with fail;go_ret;exact ⟨by rw [f.out];rfl,_,rfl⟩
def Age {w:World} {b:Nat} {x:ai} {S:Nat->Prop} (k:A9 w b x) (r:N0 w S x):Calls Tryz.prog 184 #[.pointer (some ⟨b,0,none⟩)] w fun e w'=>e=.returned (Kg x.pl).val/\Below w.heap.size w w':=by
 obtain ⟨⟨id,⟨c,d,nodes,⟨t,u,y,z⟩,f,g,array,ae,h,after⟩,lf,start,aj,parts⟩,so,sn,sc,go,gn,gc,po,pn,pc⟩:=x;obtain ⟨⟨na,nb,nc,nd⟩,s⟩:∃ v,v=K7 ⟨c,d,nodes,⟨t,u,y,z⟩,f,g,array,ae,h,[]⟩:=⟨_,rfl⟩
 have kn:∀ W,Calls Tryz.prog 234 #[.agg #[.string c,.string d,.int .i64 nodes,.int .i64 t,.int .i64 u,.int .i64 y,.int .i64 z,.int .i64 f,.int .i64 g,.int .i64 array,.int .i64 ae,.bool h,.slice none 0 0]] W fun e w'=>e=.returned (.agg #[.int .i64 na,.int .i64 nb,.int .i64 nc,.int .i64 nd])/\Below W.heap.size W w':=fun W=>by
  have:=Alv ⟨⟨c,d,nodes,⟨t,u,y,z⟩,f,g,array,ae,h,[]⟩,none,0,0⟩ W ⟨Tg W,Nat.le_refl _,r.user,r.part⟩;rw [<- s] at this;exact this
 have y1:=Bk k 1 (.string c) rfl;have y2:=Bk k 2 (.string d) rfl;have y3:=Bk k 3 (.int .i64 nodes) rfl;have y4:=Bk k 4 (.int .i64 t) rfl;have y5:=Bk k 5 (.int .i64 u) rfl;have y6:=Bk k 6 (.int .i64 y) rfl;have y7:=Bk k 7 (.int .i64 z) rfl;have y8:=Bk k 8 (.int .i64 f) rfl;have y9:=Bk k 9 (.int .i64 g) rfl;have ac:=Bk k 10 (.int .i64 array) rfl;have ad:=Bk k 11 (.int .i64 ae) rfl;have al:=Bk k 12 (.bool h) rfl;have am:=Bk k 13 (.slice so sn sc) rfl;have aA:=Ab k;obtain ⟨W1,l⟩:=Ex ((w.alloc (.cells #[.int .i64 0,.int .i64 0,.int .i64 0,.int .i64 0] 30)).alloc (.cells #[.string c,.string d,.int .i64 nodes,.int .i64 t,.int .i64 u,.int .i64 y,.int .i64 z,.int .i64 f,.int .i64 g,.int .i64 array,.int .i64 ae,.bool h,.slice so sn sc] 33));have m:Below w.heap.size w W1:=by rw [l];exact Bn.alloc (by simp) _
 have n:W1.heap[w.heap.size]?=some (.cells #[.int .i64 0,.int .i64 0,.int .i64 0,.int .i64 0] 30 (0,0)):=by rw [l];exact Ai _ (Af _ _)
 have o:W1.heap[w.heap.size+1]?=some (.cells #[.string c,.string d,.int .i64 nodes,.int .i64 t,.int .i64 u,.int .i64 y,.int .i64 z,.int .i64 f,.int .i64 g,.int .i64 array,.int .i64 ae,.bool h,.slice so sn sc] 33 (0,0)):=by rw [l];exact A2 _ _ (by simp)
 have hz:(Kg ⟨id,⟨c,d,nodes,⟨t,u,y,z⟩,f,g,array,ae,h,after⟩,lf,start,aj,parts⟩)=⟨na,nb,nc,nd⟩:=s.symm;have an:=Bk o 12 (.slice so sn sc) rfl;have fz:=Ah o;obtain ⟨W2,p⟩:=Ex (W1.setCell ⟨w.heap.size+1,12,none⟩ (.slice none 0 0));have i:Below w.heap.size w W2:=by rw [p];exact C9 m (by omega)
 have a:W2.heap[w.heap.size]?=some (.cells #[.int .i64 0,.int .i64 0,.int .i64 0,.int .i64 0] 30 (0,0)):=by rw [p];exact (Cd _ _ _ _ (fun e=>by simp at e)).trans n
 have q:W2.heap[w.heap.size+1]?=some (.cells #[.string c,.string d,.int .i64 nodes,.int .i64 t,.int .i64 u,.int .i64 y,.int .i64 z,.int .i64 f,.int .i64 g,.int .i64 array,.int .i64 ae,.bool h,.slice none 0 0] 33 (0,0)):=by rw [p];have:=Al o 12 (.slice none 0 0);simpa using this
 replace ⟨k,r,s,kn,m,n,o,hz⟩:=H8 k r s kn m n o hz;replace ⟨i,a,q⟩:=H3 i a q;go_enter Tryz.func184,Tryz.ntmps184;go_upto_region 2 with fail;rw [<- l];clear l y1 y2 y3 y4 y5 y6 y7 y8 y9 ac ad al am;go_upto_region 3 with fail;rw [<- p];clear p an fz;obtain ⟨s0,s1,s2,s3,s4,s5,s6,s7,s8,s9,ao,ap,av⟩:=C13 q.out;(try dsimp only at s0 s1 s2 s3 s4 s5 s6 s7 s8 s9 ao ap av);go_wp2_with (go_at_call 234;(with_reducible refine (kn.out _).mono ?_);rintro e w3 ⟨rfl,j⟩;have r0:w3.cell? ⟨w.heap.size,0,none⟩=some (.int .i64 0):=Aa (Ae j a.out (Ab a.out)) 0;have r1:w3.cell? ⟨w.heap.size,1,none⟩=some (.int .i64 0):=Aa (Ae j a.out (Ab a.out)) 1;have r2:w3.cell? ⟨w.heap.size,2,none⟩=some (.int .i64 0):=Aa (Ae j a.out (Ab a.out)) 2;have r3:w3.cell? ⟨w.heap.size,3,none⟩=some (.int .i64 0):=Aa (Ae j a.out (Ab a.out)) 3;have fr:=Ah (Ae j a.out (Ab a.out));replace j:=Hh j);refine Ao (v:=V4.val ⟨na,nb,nc,nd⟩) (by simp [results,Tryz.results184,go_sem,r0,r1,r2,r3]) rfl ⟨by rw [hz.out],?_⟩;exact C9 (C9 (C9 (C9 (i.out.trans (j.out.mono i.out.size)) (by omega)) (by omega)) (by omega)) (by omega)
def Asl:∀ args w,(callFunc 247 args).run Tryz.prog w=.ok (.enter 247 args) w:=Im Tryz.func247 (by decide) (by simp [Tryz.f247])
def Asm {w:World} {T:Tv} (h:An w T) (f:Nat) (c:w.cell? ⟨f,0,none⟩=some (.pointer (some ⟨T.tb,0,none⟩))) (k:Nat) (i:k<T.js.length) :
  Calls Tryz.prog 247 (#[.int .i64 ((k:Int)+1)]++#[.pointer (some ⟨f,0,none⟩)]) w fun e w'=>e=.returned (.bool (!decide (Lz T.pl.ab ((k:Int)+1)=5)))/\w'=w:=by
 obtain ⟨j,b⟩:∃ j,T.js[k]?=some j:=⟨_,Am i⟩;rw [Ac3 b];obtain ⟨g,cap,l,r,t,_⟩:=h.ll b;obtain ⟨tb,n⟩:=Ex (T.tb);obtain ⟨jb,a⟩:=Ex (j.1);obtain ⟨m,o⟩:=Ex (T.js.length);obtain ⟨s,d⟩:=Ex (j.2.pl.lf.st);have cs:w.cell? ⟨j.1,14,none⟩=some (.int .i64 j.2.pl.lf.st):=Aa (h.box j (Aj b)) 14
 have p:m<=9223372036854775807:=by
  rcases h.ab.2 with ⟨_,u⟩ | ⟨g',q,v,u,_,_,h1,x,_⟩
  .omega
  .unfold maxLen at x;omega
 rw [<- a,<- d] at cs;rw [<- n] at l c;rw [<- o] at l i;rw [<- a] at r;rw [<- d];have y:(k:Int)<m:=by omega
 have z:(0:Int)<=(k:Int):=by omega
 clear n a o d h b;go_enter Tryz.func247,Tryz.ntmps247;go_wp2_with fail;go_ret;exact ⟨by first | rfl | (congr 1;congr 1;simp [bne];rfl) | simp [bne],rfl⟩
abbrev E1 (c:Cl):Value:=.agg #[.int .i64 c.e,.int .i64 c.first,.int .i64 c.last]
def Aac (w:World) (T:Tv) (X:List Jb) (c:Cl) (e:Ending) (w':World):Prop:=e=.returned (E1 c)/\∃ js,Bq w T js w'/\js.map (fun j=>j.2.pl)=X
structure re (w:World) (x:cu) (wr:World):Prop where
 low:Below w.heap.size w wr
 box:wr.heap[w.heap.size]?=some (.cells x.cells 40 (0,0))
 res:wr.heap[w.heap.size+1]?=some (.cells #[.int .i64 0,.int .i64 0,.int .i64 0] 35 (0,0))
def re.new (w:World) (x:cu):re w x ((w.alloc (.cells x.cells 40 (0,0))).alloc (.cells #[.int .i64 0,.int .i64 0,.int .i64 0] 35 (0,0))):=
 ⟨Bn.alloc (by simp) _,Ai _ (Af _ _),A2 _ _ (by simp)⟩
structure Ci (w:World) (T:Tv) (x:cu) (js:List (Nat×ai)) (wr:World):Prop where
 tab:Bq w T js wr
 box:wr.heap[w.heap.size]?=some (.cells x.cells 40 (0,0))
 res:wr.heap[w.heap.size+1]?=some (.cells #[.int .i64 0,.int .i64 0,.int .i64 0] 35 (0,0))
def Ci.new {w:World} {T:Tv} (h:An w T) (x:cu):Ci w T x T.js ((w.alloc (.cells x.cells 40 (0,0))).alloc (.cells #[.int .i64 0,.int .i64 0,.int .i64 0] 35 (0,0))):=
 ⟨(Bq.refl h).low (re.new w x).low,(re.new w x).box,(re.new w x).res⟩
def Ci.low {w wr w':World} {T:Tv} {x:cu} {js:List (Nat×ai)} (h:Ci w T x js wr) (a:Below wr.heap.size wr w'):Ci w T x js w':=⟨h.tab.low a,Ae a h.box (Ab h.box),Ae a h.res (Ab h.res)⟩
def Ci.then {w wr w':World} {T:Tv} {x:cu} {js a:List (Nat×ai)} (h:Ci w T x js wr) (b:Bq wr { T with js:=js } a w'):Ci w T x a w':=
 ⟨h.tab.then b,b.mod.aq h.box (h.tab.at_.off h.box (by decide) (by decide) (by decide) (by decide) (by decide)),b.mod.aq h.res (h.tab.at_.off h.res (by decide) (by decide) (by decide) (by decide) (by decide))⟩
def Ci.de {w wr w':World} {T:Tv} {e:cu} {js:List (Nat×ai)} (h:Ci w T e js wr) {i b:Nat} {x y:ai} (c:js[i]?=some (b,x)) (d:Mod (F0 (b,x)) wr w') (a:A9 w' b y) (f:Bu w' y) (g:Gw x y):Ci w T e (js.set i (b,y)) w':=
 h.then ((Bq.refl (T:={ T with js:=js }) h.tab.at_).de c d a f g)
def Ci.pw {w wr:World} {T:Tv} {x:cu} {js:List (Nat×ai)} (h:Ci w T x js wr) (h0:An w T) (a b c:Value):Bq w T js (((wr.setCell ⟨w.heap.size+1,0,none⟩ a).setCell ⟨w.heap.size+1,1,none⟩ b).setCell ⟨w.heap.size+1,2,none⟩ c):=
 h.tab.eo h0 h.res ((((Mod.refl (fun k=>k=w.heap.size+1) wr).set _ 0 a rfl).set _ 1 b rfl).set _ 2 c rfl) (by omega) (by decide) (by decide) (by decide) (by decide) (by decide) (by decide)
def Atg (s:Int) (j:Jb):(L8 s j).sp=j.sp:=by
 unfold L8
 split<;>rfl
def Agn (js:List Jb) (i:Nat) (f:Jb->Jb) (a:∀ j,(f j).sp=j.sp):(js.modify i f).map Jb.sp=js.map Jb.sp:=by
 apply Ee;intro k;simp only [Bx,Fe]
 cases js[k]? with
 | none=>rfl
 | some j=>
  simp only [J1];split
  .exact Ca some (a j)
  .rfl
def Ath {w:World} {T:Tv} (x:cu) (h:An w T) (ha:D6 T.pl.ab) (k:Nat) (hk:k<T.js.length) (hj:x.n.bp=(k:Int)+1) :
  Calls Tryz.prog 86 #[.pointer (some ⟨T.tb,0,none⟩),x.val] w (Aac w T (Dw (Fn T.pl.ab x.n.bp (L8 (Gg x.n.kind)))) ⟨0,0,x.n.bp,x.n.bp⟩):=by
 have t:=Ci.new h x;obtain ⟨W0,aB⟩:=Ex ((w.alloc (.cells x.cells 40 (0,0))).alloc (.cells #[.int .i64 0,.int .i64 0,.int .i64 0] 35 (0,0)));rw [<- aB] at t;obtain ⟨j,d⟩:∃ j,T.js[k]?=some j:=⟨_,Am hk⟩;obtain ⟨g,cap,c4,cj,aM,_⟩:=t.tab.at_.ll d;have aJ:W0.cell? ⟨T.tb,4,none⟩=some (.slice (some ⟨g,0,none⟩) T.js.length cap):=c4;have aK:T.js.length<=9223372036854775807:=by obtain ⟨_,_,_,_,hm,_⟩:=h.l8;exact hm
 obtain ⟨i,b⟩:=j;obtain ⟨tb,ht⟩:=Ex (T.tb);obtain ⟨m,hm⟩:=Ex (T.js.length);obtain ⟨s,hs⟩:=Ex (Gg x.n.kind)
 have aC:1<=s/\s<=8:=by rw [hs];unfold Gg;split<;>(try split)<;>omega
 have ks:=fun W=>Adf x.n.kind W;rw [<- hs] at ks;obtain ⟨l,hl⟩:=Ex ((Ay b.pl.lf s).1);have ao:=fun (W:World) (hW:A9 W i b)=>R0 hW s aC;rw [<- hl] at ao;obtain ⟨X1,ad⟩:=Ex (Fn T.pl.ab x.n.bp (L8 s));have o:X1=T.pl.ab.modify k (L8 s):=by rw [ad,hj];unfold Fn;rw [show ((k:Int)+1-1).toNat=k by omega]
 have ap:D6 X1:=by rw [o];exact Qa ha (Agn _ _ _ (Atg s))
 have p:L8 s b.pl=if df l.st=true then (b.az l).pl else (b.az l).bare.pl:=by rw [hl];rfl
 rw [<- hs,<- ad,<- ht];rw [<- ht,<- hm] at aJ;have kl:=fun W=>P8 l.st W;obtain ⟨q,hq⟩:=Ex (df l.st);rw [<- hq] at kl p;obtain ⟨⟨kd,ep,tk,cl,sq,jn,an,nn,hw⟩,so,sn,sc,cq⟩:=x;simp only at hj ad ks;subst hj;have e0:=Bk t.box 0 (.int .i64 kd) rfl;have e5:=Bk t.box 5 (.int .i64 ((k:Int)+1)) rfl;have aN:(k:Int)<m:=by omega
 have aO:(0:Int)<=(k:Int):=by omega
 rw [hm.symm] at aK;replace ⟨h,ha,t,d,ht,hm,hs,aC⟩:=H8 h ha t d ht hm hs aC;replace ⟨ks,hl,ao,ad,o,ap,p,kl⟩:=H8 ks hl ao ad o ap p kl;replace hq:=Hh hq;clear c4 aM hk;go_enter Tryz.func86,Tryz.ntmps86;go_wp2_with fail;rw [<- aB];clear aB;go_quiet (fail);rename_i nq;have ac:=t.out.low (⟨rfl,rfl,rfl,Nat.le_refl _,fun _ _=>rfl⟩:Below W0.heap.size W0 (W0.drewN nq));have aD:=ao.out _ (ac.tab.get d.out).1;replace ⟨ac,aD⟩:=H2 ac aD;go_wp2_with fail;refine (ks.out _).mono ?_;rintro e w1 ⟨rfl,rfl⟩;go_wp2_with fail;refine aD.out.mono ?_;rintro e w2 ⟨rfl,al,av⟩;have am:=(ac.out.tab.get d.out).2
 have c:Ci w T _ (T.js.set k (i,b.az l)) w2:=
  ac.out.de d.out (Oy av) al (Tn (x:=b) (ac.out.tab.get d.out).1 am.parts av) (Vr _ _)
 have aL:=Bk al 14 (.int .i64 l.st) rfl;have r:(T.js.set k (i,b.az l))[k]?=some (i,b.az l):=by have:=(Aq.1 d.out).1;simp [this]
 have aE:=Vo al;clear aJ cj e0 e5;replace ⟨am,al,av,c,aE,r⟩:=H6 am al av c aE r;go_wp2_with fail;refine (kl.out _).mono ?_;rintro e w3 ⟨rfl,rfl⟩
 cases q with
 | true=>
  clear aL;have hX:(T.js.set k (i,b.az l)).map (fun j=>j.2.pl)=X1:=by rw [M9 T.js d.out (f:=L8 s) (by rw [p.out,Ad rfl]),o.out];rfl
  have u:Calls Tryz.prog 130 #[.pointer (some ⟨tb,0,none⟩)] w3 (Kf w3 { T with js:=T.js.set k (i,b.az l) } (Dw X1)):=by
   have:=Vu (T:={ T with js:=T.js.set k (i,b.az l) }) c.out.tab.at_ (by
    show D6 ((T.js.set k (i,b.az l)).map fun j=>j.2.pl)
    rw [hX];exact ap.out)
   rw [show ({ T with js:=T.js.set k (i,b.az l) }:Tv).pl.ab=X1 from hX] at this;rw [ht.out];exact this
  replace ⟨hX,u⟩:=H2 hX u;go_wp2_with fail;refine u.out.mono ?_;rintro e w4 ⟨rfl,aF,y,z⟩
  have a:=c.out.then y
  have d5:=Bk a.box 5 (.int .i64 ((k:Int)+1)) rfl;obtain ⟨r0,r1,r2⟩:=C3 a.res;(try dsimp only at r0 r1 r2);have fr:=Ah a.res;replace ⟨y,z,a⟩:=H3 y z a;go_wp2;refine Ao (v:=E1 ⟨0,0,(k:Int)+1,(k:Int)+1⟩) (by simp [results,Tryz.results86,go_sem,r0,r1,r2]) rfl ⟨rfl,aF,?_,z.out⟩;exact a.out.pw h.out _ _ _
 | false=>
  clear aL;go_wp2_with fail;refine aE.out.mono ?_;rintro e w5 ⟨rfl,aG,aA⟩
  have aH:Ci w T _ ((T.js.set k (i,b.az l)).set k (i,(b.az l).bare)) w5:=
   c.out.de r.out (Oy aA) aG (Tn (x:=b.az l) (c.out.tab.get r.out).1 (c.out.tab.get r.out).2.parts aA) (Vs _)
  have aI:(T.js.set k (i,b.az l)).set k (i,(b.az l).bare)=T.js.set k (i,(b.az l).bare):=by simp
  rw [aI] at aH;clear c;have c:=Hh aH;clear aH;replace ⟨aG,aA,aI⟩:=H3 aG aA aI;have hX:(T.js.set k (i,(b.az l).bare)).map (fun j=>j.2.pl)=X1:=by rw [M9 T.js d.out (f:=L8 s) (by rw [p.out,Ac (by simp)]),o.out];rfl
  have u:Calls Tryz.prog 130 #[.pointer (some ⟨tb,0,none⟩)] w5 (Kf w5 { T with js:=T.js.set k (i,(b.az l).bare) } (Dw X1)):=by
   have:=Vu (T:={ T with js:=T.js.set k (i,(b.az l).bare) }) c.out.tab.at_ (by
    show D6 ((T.js.set k (i,(b.az l).bare)).map fun j=>j.2.pl)
    rw [hX];exact ap.out)
   rw [show ({ T with js:=T.js.set k (i,(b.az l).bare) }:Tv).pl.ab=X1 from hX] at this;rw [ht.out];exact this
  replace ⟨hX,u⟩:=H2 hX u;go_wp2_with fail;refine u.out.mono ?_;rintro e w4 ⟨rfl,aF,y,z⟩
  have a:=c.out.then y
  have d5:=Bk a.box 5 (.int .i64 ((k:Int)+1)) rfl;obtain ⟨r0,r1,r2⟩:=C3 a.res;(try dsimp only at r0 r1 r2);have fr:=Ah a.res;replace ⟨y,z,a⟩:=H3 y z a;go_wp2;refine Ao (v:=E1 ⟨0,0,(k:Int)+1,(k:Int)+1⟩) (by simp [results,Tryz.results86,go_sem,r0,r1,r2]) rfl ⟨rfl,aF,?_,z.out⟩;exact a.out.pw h.out _ _ _
def Ati (e:bz) (j:Jb):(L9 e j).sp=j.sp:=by
 unfold L9
 split<;>rfl
def Atj (x:ai) (k:Nat) (h:Int):Gw x (x.bu (Fi x.pl k h)):=⟨rfl,rfl,rfl,rfl,rfl,rfl,.inl ⟨rfl,rfl,rfl,rfl⟩,fun _ h=>h⟩
def Atk {x:ai} {w:World} (b:Bu w x) {a n:Int} {i:Nat} (h:Gd x.pl a n=some i):i<x.pn:=by
 have c:=J8 b;unfold Gd at h;split at h
 .have:=Xp.1 h;obtain ⟨h1,_⟩:=this;omega
 .cases h
structure xi (w:World) (T:Tv) (x:cu) (js:List (Nat×ai)) (wr:World):Prop where
 tab:Ci w T x js wr
def Atl {w:World} {T:Tv} (x:cu) (h:An w T) (ha:D6 T.pl.ab) (k:Nat) (j:Nat×ai) (b:T.js[k]?=some j) (hj:x.n.bp=(k:Int)+1) (i:Nat) (s:Gd j.2.pl x.n.attempt x.n.node=some i) :
  Calls Tryz.prog 84 #[.pointer (some ⟨T.tb,0,none⟩),x.val] w (Aac w T (Is (Fn T.pl.ab x.n.bp (L9 x.n))) ⟨0,0,0,0⟩):=by
 have a:=Ci.new h x;obtain ⟨W0,am⟩:=Ex ((w.alloc (.cells x.cells 40 (0,0))).alloc (.cells #[.int .i64 0,.int .i64 0,.int .i64 0] 35 (0,0)));rw [<- am] at a;have hk:=(Aq.1 b).1;obtain ⟨g,cap,c4,cj,aE,_⟩:=a.tab.at_.ll b;have aC:W0.cell? ⟨T.tb,4,none⟩=some (.slice (some ⟨g,0,none⟩) T.js.length cap):=c4;have aD:T.js.length<=9223372036854775807:=by obtain ⟨_,_,_,_,hm,_⟩:=h.l8;exact hm
 obtain ⟨z,l⟩:=j;have o:=(a.tab.get b).2;have ac:=Atk o.parts s;obtain ⟨pb,p,ad,_,_,_⟩:=Qb o.parts ac;obtain ⟨tb,ht⟩:=Ex (T.tb);obtain ⟨m,hm⟩:=Ex (T.js.length);obtain ⟨X1,t⟩:=Ex (Fn T.pl.ab x.n.bp (L9 x.n));have q:X1=T.pl.ab.modify k (L9 x.n):=by rw [t,hj];unfold Fn;rw [show ((k:Int)+1-1).toNat=k by omega]
 have ao:D6 X1:=by rw [q];exact Qa ha (Agn _ _ _ (Ati x.n))
 have ap:L9 x.n l.pl=Fi l.pl i x.n.bj:=by unfold L9;rw [s]
 have d:∀ W,Below W0.heap.size W0 W->Calls Tryz.prog 102 #[.pointer (some ⟨z,0,none⟩),.int .i64 x.n.attempt,.int .i64 x.n.node] W fun e w'=>e=.returned (.pointer (some ⟨pb,i*2,none⟩))/\w'=W:=fun W hb=>by
  obtain ⟨q1,q2⟩:=(a.tab.low hb).get b;refine (Adh q1 q2.parts x.n.attempt x.n.node).mono fun e w' ⟨u,hp⟩=>⟨?_,u⟩;rcases hp with ⟨c,_⟩ | ⟨k',aI,c1,c2,_,c4⟩
  .rw [s] at c;cases c
  .rw [s] at c1;injection c1 with c1;rw [ad] at c2;injection c2 with c2;injection c2 with c2;rw [c4,<- c1,<- c2]
 have r:∀ W,Below W0.heap.size W0 W->Calls Tryz.prog 140 #[.pointer (some ⟨z,0,none⟩),.pointer (some ⟨pb,i*2,none⟩),.int .i64 x.n.bj] W fun e w'=>e=.returned (.tuple #[])/\xi w T x (T.js.set k (z,l.bu (Fi l.pl i x.n.bj))) w':=fun W hb=>by
  have hE:=a.low hb;obtain ⟨q1,q2⟩:=hE.tab.get b;exact (Vw q1 q2.parts i ac pb ad x.n.bj).mono fun e w' ⟨he,b1,b2,b3⟩=>⟨he,⟨hE.de b b3 b1 b2 (Atj l i x.n.bj)⟩⟩
 rw [<- t,<- ht];rw [<- ht,<- hm] at aC;obtain ⟨⟨kd,ep,tk,cl,sq,jn,an,nn,u⟩,so,sn,sc,cq⟩:=x;simp only at hj t d r;subst hj;have e5:=Bk a.box 5 (.int .i64 ((k:Int)+1)) rfl;have e6:=Bk a.box 6 (.int .i64 an) rfl;have e7:=Bk a.box 7 (.int .i64 nn) rfl;have e8:=Bk a.box 8 (.int .i64 u) rfl;have aJ:(k:Int)<m:=by omega
 have aK:(0:Int)<=(k:Int):=by omega
 rw [hm.symm] at aD;replace ⟨h,ha,a,b,ht,hm,t,q⟩:=H8 h ha a b ht hm t q;replace ⟨ao,ap,d,r,o,ac,ad,s⟩:=H8 ao ap d r o ac ad s;clear c4 aE hk;go_enter Tryz.func84,Tryz.ntmps84;go_wp2_with fail;rw [<- am];clear am;go_quiet (fail);rename_i nq;go_upto_region 2 with fail;go_cut [] (fun wx=>xi w T ⟨⟨kd,ep,tk,cl,sq,(k:Int)+1,an,nn,u⟩,so,sn,sc,cq⟩ (T.js.set k (z,l.bu (Fi l.pl i u))) wx)
 case first=>
  go_region_with (first
   | (go_at_call 102;((with_reducible refine (d.out _ (A8 _ _ _)).mono ?_);rintro e w1 ⟨rfl,aF⟩;rw [aF]))
   | (go_at_call 140;((with_reducible refine (r.out _ (A8 _ _ _)).mono ?_);rintro e w1 ⟨rfl,aG⟩)))
  all_goals
   go_wp2_with fail;go_meet;exact aG
 case rest=>
  obtain ⟨al⟩:=hcut;have hX:(T.js.set k (z,l.bu (Fi l.pl i u))).map (fun j=>j.2.pl)=X1:=by rw [M9 T.js b.out (f:=L9 ⟨kd,ep,tk,cl,sq,(k:Int)+1,an,nn,u⟩) (by rw [ap.out];rfl),q.out];rfl
  have av:Calls Tryz.prog 134 #[.pointer (some ⟨tb,0,none⟩)] wc (Kf wc { T with js:=T.js.set k (z,l.bu (Fi l.pl i u)) } (Is X1)):=by
   have:=Y3 (T:={ T with js:=T.js.set k (z,l.bu (Fi l.pl i u)) }) al.tab.at_ (by
    show D6 ((T.js.set k (z,l.bu (Fi l.pl i u))).map fun j=>j.2.pl)
    rw [hX];exact ao.out)
   rw [show ({ T with js:=T.js.set k (z,l.bu (Fi l.pl i u)) }:Tv).pl.ab=X1 from hX] at this;rw [ht.out];exact this
  clear aC cj e5 e6 e7 e8;replace ⟨hX,av,al⟩:=H3 hX av al;go_wp2_with fail;refine av.out.mono ?_;rintro e w4 ⟨rfl,aH,aA,aB⟩
  have y:=al.out.then aA
  obtain ⟨r0,r1,r2⟩:=C3 y.res;(try dsimp only at r0 r1 r2);have fr:=Ah y.res;replace ⟨aA,aB,y⟩:=H3 aA aB y;go_wp2;refine Ao (v:=E1 ⟨0,0,0,0⟩) (by simp [results,Tryz.results84,go_sem,r0,r1,r2]) rfl ⟨rfl,aH,?_,aB.out⟩;exact y.out.pw h.out _ _ _
def Gz (w:World) (js js':List (Nat×ai)):Prop:=∀ j,j∈js'->(0<j.2.sn->∀ k o,j.2.so=some ⟨k,o,none⟩->k<w.heap.size->∃ i,i∈js/\0<i.2.sn/\i.2.so=some ⟨k,o,none⟩)/\(0<j.2.gn->∀ k o,j.2.go=some ⟨k,o,none⟩->k<w.heap.size->∃ i,i∈js/\0<i.2.gn/\i.2.go=some ⟨k,o,none⟩)
def Gz.refl (w:World) (js:List (Nat×ai)):Gz w js js:=fun j a=>⟨fun h _ _ e _=>⟨j,a,h,e⟩,fun h _ _ e _=>⟨j,a,h,e⟩⟩
def Bq.stays {w w1 wr:World} {T:Tv} {js:List (Nat×ai)} (h:Bq w1 T js wr):Gz w T.js js:=fun j f=>by
 obtain ⟨i,c⟩:=Dr f;have a:i<T.js.length:=by rw [<- h.len];exact (Aq.1 c).1
 have g:=Am a;have b:=h.kp i _ j g c;refine ⟨fun h0 _ _ e _=>⟨_,Ls a,by rw [<- b.sn];exact h0,by rw [<- b.so];exact e⟩,fun h0 _ _ e _=>?_⟩;rcases b.aj with ⟨k,d,_⟩ | ⟨_,d,_⟩
 .exact ⟨_,Ls a,by rw [<- d];exact h0,by rw [<- k];exact e⟩
 .omega
def Gz.trans {w w1:World} {a b c:List (Nat×ai)} (h:Gz w a b) (k:Gz w1 b c) (r:w.heap.size<=w1.heap.size):Gz w a c:=fun j m=>by
 obtain ⟨n,p⟩:=k j m;refine ⟨fun h0 q o e g=>?_,fun h0 q o e g=>?_⟩
 .obtain ⟨i,l,d,f⟩:=n h0 q o e (by omega);exact (h i l).1 d q o f g
 .obtain ⟨i,l,d,f⟩:=p h0 q o e (by omega);exact (h i l).2 d q o f g
structure Ek (w:World) (T T':Tv) (w':World):Prop where
 at_:An w' T'
 tb:T'.tb=T.tb
 fb:T'.fb=T.fb
 fm:T'.fm=T.fm
 fl:T'.fl=T.fl
 vs:T'.vs=T.vs
 ay:∀ b,T'.ay b->T.ay b\/w.heap.size<=b
 mod:Mod T.ay w w'
 du:Gz w T.js T'.js
def Pe (w:World) (T:Tv) (P:di) (c:Cl) (e:Ending) (w':World):Prop:=e=.returned (E1 c)/\∃ T',Ek w T T' w'/\T'.pl=P
def Ago {w:World} {T:Tv} {X:List Jb} {c:Cl} {e:Ending} {w':World} (h:Aac w T X c e w'):Pe w T (T.pl.eh X) c e w':=by
 obtain ⟨b,js,a,d⟩:=h;exact ⟨b,{ T with js:=js },⟨a.at_,rfl,rfl,rfl,rfl,rfl,a.ay,a.mod,a.stays⟩,by rw [<- d];rfl⟩
def Atm (j:Jb) (k:Nat) (a:Int):(Ov j k a).sp=j.sp/\(Ov j k a).aj=j.aj:=by
 unfold Ov;split
 .exact ⟨rfl,rfl⟩
 .split<;>exact ⟨rfl,rfl⟩
def Atn (j:Jb) (a:Int) (n:Nat):(It j a n).sp=j.sp/\(It j a n).aj=j.aj:=by
 induction n with
 | zero=>exact ⟨rfl,rfl⟩
 | succ n ih=>
  obtain ⟨h1,b⟩:=Atm (It j a n) n a;exact ⟨h1.trans ih.1,b.trans ih.2⟩
def Aad (j:Jb) (a:Int):(Fj j a).sp=j.sp/\(Fj j a).aj=j.aj:=Atn _ _ _
def Agp (x:ai) (a:Int):Gw x (x.bu (Fj x.pl a)):=by
 obtain ⟨h1,b⟩:=Aad x.pl a;exact ⟨rfl,rfl,rfl,by show (Fj x.pl a).sp.after=_;rw [h1],by show (Fj x.pl a).sp.user=_;rw [h1],by show (Fj x.pl a).sp.part=_;rw [h1],.inl ⟨rfl,rfl,rfl,b⟩,fun _ h=>h⟩
def An.xf {w:World} {T:Tv} (h:An w T) (h0:0<T.nodes.length):∃ g cap,T.nv=.slice (some ⟨g,0,none⟩) T.nodes.length cap/\w.cell? ⟨T.tb,3,none⟩=some (.slice (some ⟨g,0,none⟩) T.nodes.length cap)/\T.nodes.length<=9223372036854775807:=by
 obtain ⟨g,cap,e⟩:=Joins.ownsRow_form h.nodes h0;refine ⟨g,cap,e,by rw [Aa h.head 3,<- e];rfl,?_⟩;rcases h.nodes.2 with ⟨_,b⟩ | ⟨f,a,c,b,_,_,h1,d,_⟩
 .omega
 .unfold maxLen at d;omega
def An.oy {w:World} {T:Tv} (h:An w T) {i:Nat} {n:Er} (b:T.nodes[i]?=some n) {g cap:Nat} (e:T.nv=.slice (some ⟨g,0,none⟩) T.nodes.length cap):w.cell? ⟨g,i*3,none⟩=some (.bool n.up)/\w.cell? ⟨g,i*3+1,none⟩=some (.bool n.bo)/\w.cell? ⟨g,i*3+2,none⟩=some (.int .i64 n.since)/\∀ o,w.frozen? ⟨g,o,none⟩=false:=by
 have s:=(Aq.1 b).1;have c:=h.nodes;rw [e] at c;have a:∀ x:Er,(E3 x).size=3:=fun _=>rfl;have f:=Gr c (i*3) (by omega);have k:=Gr c (i*3+1) (by omega);have l:=Gr c (i*3+2) (by omega);have d:=Iq a T.nodes (j:=0) b (by omega);have m:=Iq a T.nodes (j:=1) b (by omega);have p:=Iq a T.nodes (j:=2) b (by omega);rw [Nt] at d;obtain ⟨q,r,_⟩:=C1 h.nodes (g:=g) (by rw [e];rfl);exact ⟨by rw [f,d];rfl,by rw [k,m];rfl,by rw [l,p];rfl,Ah r⟩
def Ci.setNode {w wr:World} {T:Tv} {x:cu} (h:Ci w T x T.js wr) {g cap:Nat} (e:T.nv=.slice (some ⟨g,0,none⟩) T.nodes.length cap) (i j:Nat) (v:Value) (f:Er->Er) (o:j<3) (p:∀ x:Er,(E3 x).toList.set j v=(E3 (f x)).toList) :
  Ci w { T with nodes:=T.nodes.modify i f } x T.js (wr.setCell ⟨g,i*3+j,none⟩ v):=by
 have q:=h.tab.at_.nodes;have l:wr.ownsRow 0 119 3 (.slice (some ⟨g,0,none⟩) T.nodes.length cap) T.nodes.length (Ar E3 T.nodes):=by have:wr.ownsRow 0 119 3 T.nv T.nodes.length (Ar E3 T.nodes):=q;rw [e] at this;exact this
 have m:=Aru l (i*3+j) v;rw [Arv _ _ _ _ f o p] at m;have n:Mod (fun k=>({ T with js:=T.js }:Tv).nv.ownBlock=some k) wr (wr.setCell ⟨g,i*3+j,none⟩ v):=Mod.setCell _ _ _ _ (by show T.nv.ownBlock=some g;rw [e];rfl)
 have r:=An.pj (T:={ T with js:=T.js }) h.tab.at_ (T.nodes.modify i f) (Lp _ _ _) n (by
  rw [Lp];show (wr.setCell ⟨g,i*3+j,none⟩ v).ownsRow 0 119 3 T.nv _ _;rw [e]
  exact m)
 have d:∀ k,T.nv.ownBlock=some k->T.ay k:=fun k e=>.inr (.inr (.inl e));have a:=n.mono fun k _ e=>d k e;refine ⟨⟨r,rfl,fun b c=>.inl c,h.tab.mod.trans a,h.tab.kp⟩,a.aq h.box (h.tab.at_.off h.box (by decide) (by decide) (by decide) (by decide) (by decide)),a.aq h.res (h.tab.at_.off h.res (by decide) (by decide) (by decide) (by decide) (by decide))⟩
def Ci.ie {w wr:World} {T a:Tv} {x:cu} {js:List (Nat×ai)} (h:Ci w a x js wr) (h0:An w T) (d:a.js=T.js) (f:a.tb=T.tb) (l m n:Value):Bq w a js (((wr.setCell ⟨w.heap.size+1,0,none⟩ l).setCell ⟨w.heap.size+1,1,none⟩ m).setCell ⟨w.heap.size+1,2,none⟩ n):=by
 have p:=(((Mod.refl (fun k=>k=w.heap.size+1) wr).set _ 0 l rfl).set _ 1 m rfl).set _ 2 n rfl;refine ⟨h.tab.at_.eo h.res p (by show a.tb<_;rw [f];have:=Ab h0.head;omega) (by decide) (by decide) (by decide) (by decide) (by decide) (by decide) fun j v=>?_,h.tab.aq,h.tab.ay,h.tab.mod.then p (fun k c e=>by omega),h.tab.kp⟩;obtain ⟨i,q⟩:=Dr v;have r:i<a.js.length:=by rw [<- h.tab.len];exact (Aq.1 q).1
 have y:=Am r;have c:=h.tab.kp i _ j y q;have g:a.js[i]∈T.js:=by rw [<- d];exact Ls r
 have s:=h0.ok _ g;refine ⟨fun b k o e=>?_,fun b k o e=>?_⟩
 .rw [c.sn] at b;rw [c.so] at e;have:=K9 s.after.row b e;omega
 .rcases c.aj with ⟨t,u,_⟩ | ⟨t,u,_⟩
  .rw [u] at b;rw [t] at e;have:=K9 s.aj.row b e;omega
  .omega
def Ato {w:World} {T:Tv} (x:cu) (h:An w T):Calls Tryz.prog 81 #[.pointer (some ⟨T.tb,0,none⟩),x.val] w (Pe w T { T.pl with ah:=x.n.ah } ⟨0,0,0,0⟩):=by
 have a:=Ci.new h x;obtain ⟨f,i⟩:=Ex ((w.alloc (.cells x.cells 40 (0,0))).alloc (.cells #[.int .i64 0,.int .i64 0,.int .i64 0] 35 (0,0)));rw [<- i] at a;obtain ⟨g,j⟩:=Ex (T.tb);rw [<- j];have o:f.heap[g]?=some (.cells #[.int .i64 T.ah,.int .i64 T.tick,.map (some T.mb),T.nv,T.jv,.pointer (some ⟨T.fb,0,none⟩),T.cv] 115 (0,0)):=by rw [j];exact a.tab.at_.head
 have c0:=Bk o 0 (.int .i64 T.ah) rfl;have f0:=Ah o;obtain ⟨⟨kd,d,tk,cl,sq,jn,an,nn,hw⟩,so,sn,sc,cq⟩:=x;have e1:=Bk a.box 1 (.int .i64 d) rfl;obtain ⟨t,u,y⟩:=C3 a.res;(try dsimp only at t u y);have fr:=Ah a.res;have l:g≠w.heap.size+1:=by rw [j];have:=Ab h.head;omega
 replace ⟨h,a,j,o,l⟩:=H5 h a j o l;go_enter Tryz.func81,Tryz.ntmps81;go_upto_region 1 with fail;rw [<- i];clear i;have p:=l.out;have q:=p.symm;have z:¬ (w.heap.size+1=g):=q;go_wp2;refine Ao (v:=E1 ⟨0,0,0,0⟩) (by simp [results,Tryz.results81,go_sem,t,u,y]) rfl ⟨rfl,?_⟩
 have r:Ci w { T with ah:=d } ⟨⟨kd,d,tk,cl,sq,jn,an,nn,hw⟩,so,sn,sc,cq⟩ T.js (f.setCell ⟨g,0,none⟩ (.int .i64 d)):=by
  have hm:Mod (fun k=>k=T.tb) f (f.setCell ⟨g,0,none⟩ (.int .i64 d)):=Mod.setCell _ _ _ _ j.out
  have hA:=a.out.tab.at_.nh (w':=f.setCell ⟨g,0,none⟩ (.int .i64 d)) d T.tick hm (by
   show (f.setCell ⟨g,0,none⟩ (.int .i64 d)).heap[T.tb]?=_;rw [<- j.out,Al o.out]
   rfl)
  have m:Mod T.ay f (f.setCell ⟨g,0,none⟩ (.int .i64 d)):=hm.mono fun k _ e=>by rw [e];exact .inl rfl
  exact ⟨⟨hA,rfl,fun b c=>.inl c,a.out.tab.mod.trans m,a.out.tab.kp⟩,m.aq a.out.box (a.out.tab.at_.off a.out.box (by decide) (by decide) (by decide) (by decide) (by decide)),m.aq a.out.res (a.out.tab.at_.off a.out.res (by decide) (by decide) (by decide) (by decide) (by decide))⟩
 have s:=r.ie h.out rfl rfl (.int .i64 0) (.int .i64 0) (.int .i64 0);exact ⟨{ T with ah:=d },⟨s.at_,rfl,rfl,rfl,rfl,rfl,s.ay,s.mod,Gz.refl _ _⟩,rfl⟩
def At0 {α:Type} (l:List α) (i:Nat) (f g:α->α):(l.modify i f).modify i g=l.modify i fun x=>g (f x):=by
 apply Ee;intro k;rw [Fe,Fe,Fe];by_cases h:i=k
 .simp [h,G6]
 .simp [h]
def At1 {w:World} {T:Tv} (x:cu) (h:An w T) (ha:D6 T.pl.ab) (i:Nat) (hi:i<T.nodes.length) (aN:x.n.node=(i:Int)) (aT:8<=x.n.kind/\x.n.kind<=11) :
  Calls Tryz.prog 85 #[.pointer (some ⟨T.tb,0,none⟩),x.val] w (Pe w T (Qc T.pl x.n) ⟨0,0,0,0⟩):=by
 have d:=Ci.new h x;obtain ⟨W0,r⟩:=Ex ((w.alloc (.cells x.cells 40 (0,0))).alloc (.cells #[.int .i64 0,.int .i64 0,.int .i64 0] 35 (0,0)));rw [<- r] at d;obtain ⟨g,cap,ap,c3,aA⟩:=An.xf (T:={ T with js:=T.js }) d.tab.at_ (by show 0<T.nodes.length;omega);have o:=ap;have aO:=c3;have aB:=aA;obtain ⟨nd,aC⟩:∃ n,T.nodes[i]?=some n:=⟨_,Am hi⟩;obtain ⟨n0,n1,n2,fn⟩:=An.oy (T:={ T with js:=T.js }) d.tab.at_ aC ap;obtain ⟨tb,ht⟩:=Ex (T.tb);obtain ⟨m,hm⟩:=Ex (T.nodes.length);obtain ⟨P,hP⟩:=Ex (Qc T.pl x.n);rw [<- ht,<- hP];rw [<- ht,<- hm] at aO;rw [<- hm] at aB
 have ac:g≠w.heap.size+1:=fun e=>by
  have:=d.tab.at_.off d.res (by decide) (by decide) (by decide) (by decide) (by decide);exact this (.inr (.inr (.inl (by show T.nv.ownBlock=_;rw [o,e];rfl))))
 obtain ⟨⟨kd,ep,tk,cl,sq,jn,an,nn,hw⟩,so,sn,sc,cq⟩:=x;simp only at aN aT;subst aN;have e0:=Bk d.box 0 (.int .i64 kd) rfl;have e2:=Bk d.box 2 (.int .i64 tk) rfl;have e7:=Bk d.box 7 (.int .i64 (i:Int)) rfl;obtain ⟨r0,r1,r2⟩:=C3 d.res;(try dsimp only at r0 r1 r2);have fr:=Ah d.res;have a0:(i:Int)<m:=by omega
 have a1:(0:Int)<=(i:Int):=by omega
 have aU:¬ (g=w.heap.size+1):=ac;clear c3 aA ac;replace ⟨h,ha,d,ap,o,aC,ht,hm⟩:=H8 h ha d ap o aC ht hm;replace hP:=Hh hP;by_cases q8:kd=8
 .subst q8;obtain ⟨aP,aQ,av,aZ,aD,_⟩:=h.out.l8;obtain ⟨mj,y⟩:=Ex (T.js.length);obtain ⟨s,a⟩:∃ s:Tv,s={ T with nodes:=T.nodes.modify i (fun n=>⟨false,n.bo,n.since⟩) }:=⟨_,rfl⟩;have l:P={ s.pl with ab:=Is (s.pl.ab.map fun j=>Fj j (i:Int)) }:=by rw [hP.out,a];unfold Qc;rw [Ad rfl];show _=_;simp only [Jw];rfl
  have row:∀ (js:List (Nat×ai)) (W:World),Ci w s ⟨⟨8,ep,tk,cl,sq,jn,an,(i:Int),hw⟩,so,sn,sc,cq⟩ js W->∀ k,k<mj->∃ g j,aP=some ⟨g,0,none⟩/\js[k]?=some j/\W.cell? ⟨g,k,none⟩=some (.pointer (some ⟨j.1,0,none⟩)):=fun js W hW k hk=>by
   have hl:js.length=mj:=(by rw [y,hW.tab.len,a]);obtain ⟨j,hj⟩:∃ j,js[k]?=some j:=⟨_,Am (by omega)⟩;obtain ⟨aV,aR,e1,_,_,hr⟩:=hW.tab.at_.l8;obtain ⟨g,e2,hc⟩:=hr k j hj;have e3:T.jv=.slice aV js.length aR:=(by rw [<- e1,a]);rw [av] at e3;injection e3 with e3 _ _;exact ⟨g,j,e3.trans e2,hj,hc⟩
  have c4:W0.cell? ⟨tb,4,none⟩=some (.slice aP mj aQ):=by rw [ht.out,Aa d.out.tab.at_.head 4,y,<- av];rfl
  rw [y.symm] at aD;have ad:D6 s.pl.ab:=by rw [a];exact ha.out
  have aE:s.pl.ab.length=mj:=by rw [y,a];simp [Tv.pl]
  replace ⟨av,y,l,row,ad,aE⟩:=H6 av y l row ad aE;go_enter Tryz.func85,Tryz.ntmps85;go_wp2_with fail;rw [<- r];clear r;go_quiet (fail);rename_i nq;have p:Ci w s ⟨⟨8,ep,tk,cl,sq,jn,an,(i:Int),hw⟩,so,sn,sc,cq⟩ s.js ((W0.drewN nq).setCell ⟨g,i*3,none⟩ (.bool false)):=by rw [a];exact (d.out.low (A8 _ W0 nq)).setNode o.out i 0 (.bool false) (fun n=>⟨false,n.bo,n.since⟩) (by omega) (fun _=>rfl)
  replace ⟨p,a⟩:=H2 p a;go_wp2;generalize (W0.drewN nq).setCell ⟨g,i*3,none⟩ (.bool false)=W2 at p ⊢;clear c4 aO n0 n1 n2 fn e0 e2 e7 r0 r1 r2 fr aU;go_loopw [7,35] (fun _ i2 wr=>∃ (k:Nat) (js:List (Nat×ai)),i2=.int .i64 k/\k<=mj/\Hid (Ci w s ⟨⟨8,ep,tk,cl,sq,jn,an,(i:Int),hw⟩,so,sn,sc,cq⟩ js wr)/\Hid (js.map (fun j=>j.2.pl)=D7 (fun j=>Fj j (i:Int)) s.pl.ab k)) (fun _ i2 _=>mj-(intOf i2).toNat)
  case atStart=>exact ⟨0,s.js,rfl,Av _,p.out,rfl⟩
  case round=>
   obtain ⟨k,js,rfl,hk,hE,hX⟩:=hrel;by_cases hc:k<mj
   .have aW:(k:Int)<mj:=(by omega);have a2:(0:Int)<=(k:Int):=(by omega);obtain ⟨g2,j,rfl,hj,cr⟩:=row.out _ _ hE.out k hc;obtain ⟨jb,jx⟩:=j;obtain ⟨aF,aG⟩:=hE.out.tab.get hj;have e7:=Bk hE.out.box 7 (.int .i64 (i:Int)) rfl;have aH:=Ada aF aG.parts (i:Int);replace ⟨hj,aF,aG,aH⟩:=H4 hj aF aG aH;go_wp2_with fail;refine aH.out.mono ?_;rintro e w3 ⟨rfl,hG⟩;have al:=hE.out.de hj.out hG.mod hG.box hG.parts (Agp jx (i:Int));have aI:(js.set k (jb,jx.bu (Fj jx.pl (i:Int)))).map (fun j=>j.2.pl)=D7 (fun j=>Fj j (i:Int)) s.pl.ab (k+1):=(by rw [M9 js hj.out (f:=fun j=>Fj j (i:Int)) rfl,hX.out];rfl);clear hG;replace ⟨al,aI⟩:=H2 al aI;go_wp2;go_roundw
    case rel=>exact ⟨k+1,_,by go_num,by omega,al.out,aI.out⟩
    case measure=>simp [intOf];omega
   .have aW:¬ (k:Int)<mj:=(by omega);have aJ:k=mj:=(by omega);have z:=hX.out;rw [aJ,<- aE.out,R1] at z;obtain ⟨X2,t⟩:=Ex (s.pl.ab.map fun j=>Fj j (i:Int));rw [<- t] at z;have am:D6 X2:=by rw [t,<- R1];exact Qa ad.out (Vx _ (fun j=>(Aad j _).1) _ _)
    have aK:Calls Tryz.prog 134 #[.pointer (some ⟨tb,0,none⟩)] wr (Kf wr { s with js:=js } (Is X2)):=by
     have:=Y3 (T:={ s with js:=js }) hE.out.tab.at_ (by
      show D6 (js.map fun j=>j.2.pl)
      rw [z];exact am)
     rw [show ({ s with js:=js }:Tv).pl.ab=X2 from z] at this;rw [show tb=({ s with js:=js }:Tv).tb from by rw [ht.out,a.out]];exact this
    replace ⟨z,t,am,aK,aJ⟩:=H5 z t am aK aJ;go_wp2_with fail;refine aK.out.mono ?_;rintro e w4 ⟨rfl,aX,aL,aM⟩
    have ao:=hE.out.then aL
    obtain ⟨r0,r1,r2⟩:=C3 ao.res;(try dsimp only at r0 r1 r2);have fr:=Ah ao.res;replace ⟨aL,aM,ao⟩:=H3 aL aM ao;go_wp2;refine Ao (v:=E1 ⟨0,0,0,0⟩) (by simp [results,Tryz.results85,go_sem,r0,r1,r2]) rfl ⟨rfl,?_⟩;have u:=ao.out.ie h.out (by rw [a.out]) (by rw [a.out]) (.int .i64 0) (.int .i64 0) (.int .i64 0);refine ⟨{ s with js:=aX },⟨u.at_,by rw [a.out],by rw [a.out],by rw [a.out],by rw [a.out],by rw [a.out],?_,?_,?_⟩,?_⟩
    .intro b c;have:=u.ay b c;rw [a.out] at this;exact this
    .have:=u.mod;rw [a.out] at this;exact this
    .have:=u.stays (w:=w);rw [a.out] at this;exact this
    .rw [l.out,<- t.out,<- aM.out];rfl
 .by_cases q9:kd=9
  .subst q9;have l:P={ T.pl with nodes:=T.pl.nodes.modify (i:Int).toNat (fun n=>⟨true,n.bo,tk⟩) }:=(by rw [hP.out];rfl);replace ⟨l,q8⟩:=H2 l q8;go_enter Tryz.func85,Tryz.ntmps85;go_wp2_with fail;rw [<- r];clear r;go_quiet (fail);rename_i nq;have q:=d.out.low (A8 _ W0 nq);replace q:=Hh q;go_wp2_with fail;go_region_with (fail)
   all_goals
    go_wp2;refine Ao (v:=E1 ⟨0,0,0,0⟩) (by simp [results,Tryz.results85,go_sem,r0,r1,r2]) rfl ⟨rfl,?_⟩;have p:=(d.out.low (A8 _ W0 (nq+1))).setNode o.out i 0 (.bool true) (fun n=>⟨true,n.bo,n.since⟩) (by omega) (fun _=>rfl);have al:=Ci.setNode (T:={ T with nodes:=T.nodes.modify i (fun n=>⟨true,n.bo,n.since⟩) }) p (by show T.nv=_;rw [Lp];exact o.out) i 2 (.int .i64 tk) (fun n=>⟨n.up,n.bo,tk⟩) (by omega) (fun _=>rfl);have u:=al.ie h.out rfl rfl (.int .i64 0) (.int .i64 0) (.int .i64 0);exact ⟨{ T with nodes:=(T.nodes.modify i (fun n=>⟨true,n.bo,n.since⟩)).modify i (fun n=>⟨n.up,n.bo,tk⟩) },⟨u.at_,rfl,rfl,rfl,rfl,rfl,u.ay,u.mod,Gz.refl _ _⟩,by rw [l.out,Jw,At0];rfl⟩
  .by_cases aS:kd=10
   .subst aS;have l:P={ T.pl with nodes:=T.pl.nodes.modify (i:Int).toNat (fun n=>⟨n.up,true,n.since⟩) }:=(by rw [hP.out];rfl);replace ⟨l,q8,q9⟩:=H3 l q8 q9;go_enter Tryz.func85,Tryz.ntmps85;go_wp2_with fail;rw [<- r];clear r;go_quiet (fail);rename_i nq;have q:=d.out.low (A8 _ W0 nq);replace q:=Hh q;go_wp2;refine Ao (v:=E1 ⟨0,0,0,0⟩) (by simp [results,Tryz.results85,go_sem,r0,r1,r2]) rfl ⟨rfl,?_⟩;have p:=q.out.setNode o.out i 1 (.bool true) (fun n=>⟨n.up,true,n.since⟩) (by omega) (fun _=>rfl);have u:=p.ie h.out rfl rfl (.int .i64 0) (.int .i64 0) (.int .i64 0);exact ⟨{ T with nodes:=T.nodes.modify i (fun n=>⟨n.up,true,n.since⟩) },⟨u.at_,rfl,rfl,rfl,rfl,rfl,u.ay,u.mod,Gz.refl _ _⟩,by rw [l.out,Jw];rfl⟩
   .have aY:kd=11:=(by omega);clear aS;subst aY;have l:P={ T.pl with nodes:=T.pl.nodes.modify (i:Int).toNat (fun n=>⟨n.up,false,n.since⟩) }:=(by rw [hP.out];rfl);replace ⟨l,q8,q9⟩:=H3 l q8 q9;go_enter Tryz.func85,Tryz.ntmps85;go_wp2_with fail;rw [<- r];clear r;go_quiet (fail);rename_i nq;have q:=d.out.low (A8 _ W0 nq);replace q:=Hh q;go_wp2;refine Ao (v:=E1 ⟨0,0,0,0⟩) (by simp [results,Tryz.results85,go_sem,r0,r1,r2]) rfl ⟨rfl,?_⟩;have p:=q.out.setNode o.out i 1 (.bool false) (fun n=>⟨n.up,false,n.since⟩) (by omega) (fun _=>rfl);have u:=p.ie h.out rfl rfl (.int .i64 0) (.int .i64 0) (.int .i64 0);exact ⟨{ T with nodes:=T.nodes.modify i (fun n=>⟨n.up,false,n.since⟩) },⟨u.at_,rfl,rfl,rfl,rfl,rfl,u.ay,u.mod,Gz.refl _ _⟩,by rw [l.out,Jw];rfl⟩
def At2 (w:World):Calls Tryz.prog 39 #[.pointer none] w fun e w'=>e=.returned (.int .i64 0)/\w'=w:=by
 go_enter Tryz.func39,Tryz.ntmps39;go_wp2;go_ret;exact ⟨rfl,rfl⟩
def At3 (w:World):Calls Tryz.prog 28 #[.pointer none] w fun e w'=>e=.returned (.int .i64 (-1))/\w'=w:=by
 go_enter Tryz.func28,Tryz.ntmps28;go_wp2;go_ret;exact ⟨rfl,rfl⟩
def At4 (i:Int) (w:World):Calls Tryz.prog 38 #[.pointer none,.int .i64 i] w fun e w'=>e=.returned (.tuple #[.bool false,.bool false,.int .i64 (-1)])/\w'=w:=by
 go_enter Tryz.func38,Tryz.ntmps38;go_wp2;go_ret3;exact ⟨rfl,rfl⟩
def At5 (w:World):(zeroValue 123).run Tryz.prog w=.ok (Ic Cl.zero) w:=by kernel_rfl
def xl {n:Int} (h1:-9223372036854775808<=n) (a:n<=9223372036854775807):(Lit.int .i64 n).wf=true:=by
 simp [Lit.wf,IntKind.min,IntKind.max,IntKind.signed,IntKind.bits];omega
def Agx {w:World} {c:Nat} {l:List (Int×Cl)} (h:L2 w c l) {a:Int} (h1:-9223372036854775808<=a) (f:a<=9223372036854775807):(Instr.lookup 108 (.map (some c)) (.int .i64 a) false).run Tryz.prog w=.ok (Ic (J9 l a)) w:=by
 obtain ⟨v,g,b,d⟩:=World.ownsMap.lookup h (int_keyed Da) Tryz.underlying108 (At5 w) (Acf Cl.zero) (keyOf_int_mk Da (xl h1 f))
 have:v=Ic (J9 l a):=by have e:=Alo l a;unfold Fz at e;rw [e] at d;exact All d
 rw [b,this]
def Agy:(Tryz.prog.info? 65).map (fun i=>(i.zero,i.size,i.bytes))=some (some (.agg #[.int .i64 0,.int .i64 0]),2,16):=by kernel_rfl
def Wu (w:World) (x:ai) (e:Ending) (w':World):Prop:=∃ po pc,e=.returned (.slice po x.pn pc)/\w'.ownsRow w.heap.size 65 2 (.slice po x.pn pc) x.pn (Ar Fk x.pl.parts)/\Below w.heap.size w w'
def At9 {w:World} {x:ai} (h:Bu w x) (hn:x.pn<=1000000):Calls Tryz.prog 88 #[.slice x.po x.pn x.pc] w (Wu w x):=by
 obtain ⟨i0,hi,v,y,z⟩:=C0 Agy;have q:=J8 h;have mx:maxLen=9223372036854775807:=by kernel_rfl
 have qN:∀ (w:World) (a:Option Addr) (n c n' c':Nat),(binOp .eql 44 (.slice a n c) (.slice none n' c')).run Tryz.prog w=.ok (.bool a.isNone) w:=fun w a n c n' c'=>Lib.run_eql_slice_nil w _ _ a n c n' c' Tryz.underlying44;obtain ⟨n,i⟩:=Ex (x.pn);rcases h.2 with ⟨e,h0⟩ | ⟨g,cap,aB,e,_,hg,an,ao,ap,av⟩
 .simp at e;obtain ⟨e1,e2,e3⟩:=e;have t:x.pl.parts=[]:=List.eq_nil_of_length_eq_zero (by omega);rw [e1,e2,e3];have d:Wu w x (.returned (.slice none 0 0)) w:=⟨none,0,by rw [e2],by rw [e2,t];exact No _ _ _ _,Below.refl _ _⟩;clear hi v y z i;replace ⟨d,h,e1,e2,e3,t,q,h0⟩:=H8 d h e1 e2 e3 t q h0;replace hn:=Hh hn;go_enter Tryz.func88,Tryz.ntmps88;go_wp2;go_ret;exact d.out
 .simp at e;obtain ⟨e1,e3⟩:=e;have ac:Below w.heap.size w (w.alloc (.cells #[] 65)):=Bn;have o:(w.alloc (.cells #[] 65)).ownsRow w.heap.size 65 2 (.slice (some ⟨w.heap.size,0,none⟩) 0 0) 0 []:=⟨rfl,.inr ⟨w.heap.size,0,#[],rfl,Nat.le_refl _,Af _ _,Nat.le_refl _,by omega,rfl,rfl⟩⟩
  have ad:=fun j u hu=>by
   have h2:(w.alloc (.cells #[] 65)).ownsRow 0 65 2 (.slice x.po x.pn x.pc) x.pn (Ar Fk x.pl.parts):=Bu.low h ac;exact World.ownsRow.cells h2 (g:=g) (by rw [e1];rfl) j u hu
  have al:(Ar Fk x.pl.parts).length=n*2:=by rw [Anf,q,i]
  have r:∀ u∈Ar Fk x.pl.parts,u.oneCell'=true:=fun u hu=>by
   unfold Ar at hu;obtain ⟨p,_,t⟩:=List.mem_flatMap.1 hu;simp at t
   rcases t with rfl | rfl<;>rfl
  have d:∀ po pc W,W.ownsRow w.heap.size 65 2 (.slice po n pc) n (Ar Fk x.pl.parts)->Below w.heap.size w W->Wu w x (.returned (.slice po n pc)) W:=fun po pc W a b=>⟨po,pc,by rw [i],by rw [i] at a;exact a,b⟩;rw [e1,<- i];obtain ⟨pc,am⟩:=Ex (x.pc);rw [<- am];have aC:n<=1000000:=by omega
  replace ⟨d,h,e1,e3,q,hn,hi,v⟩:=H8 d h e1 e3 q hn hi v;replace ⟨y,z,ac,o,ad,al,r,i⟩:=H8 y z ac o ad al r i;replace ⟨hg,an,ao,ap,av,am⟩:=H6 hg an ao ap av am;go_enter Tryz.func88,Tryz.ntmps88;go_wp2_with (at_builtin;refine Rb _ rfl _ _ 44 rfl w.heap.size 65 i0 (.agg #[.int .i64 0,.int .i64 0]) 2 16 Tryz.underlying44 hi.out v.out y.out z.out rfl (by decide) _ _ _ rfl o.out ⟨g,0,none⟩ n pc (Ar Fk x.pl.parts) rfl al.out ad.out r.out ?c3 ?c4 ?c5 ?c6)
  case c3=>omega
  case c4=>omega
  case c5=>simp
  case c6=>
   intro v' w2 f l s;have m:=ac.out.grown l (by simp) (fun k hk=>(o.out.lt k hk).1);rcases Joins.ownsRow_forms f with ⟨rfl,h0⟩ | ⟨g2,aA,rfl⟩
   .exact absurd rfl s
   .have t:=d.out _ _ w2 f m;replace ⟨f,l,m,t,s⟩:=H5 f l m t s;go_wp2;go_ret;exact t.out
structure Mn (w0 w':World) (x y:ai):Prop where
 pl:y.pl=x.pl
 sn:y.sn=x.sn
 gn:y.gn=x.gn
 pn:y.pn=x.pn
 after:Ap w' y.so y.sn x.pl.sp.after
 nu:y.sn<=y.sc
 tg:∀ b o,y.so=some ⟨b,o,none⟩->w0.heap.size<=b
 wi:∀ b o,y.so=some ⟨b,o,none⟩->∃ cc,w'.heap[b]?=some (.cells cc 3 (0,0))
 aj:Ap w' y.go y.gn x.pl.aj
 mi:y.gn<=y.gc
 tf:∀ b o,y.go=some ⟨b,o,none⟩->w0.heap.size<=b
 vx:∀ b o,y.go=some ⟨b,o,none⟩->∃ cc,w'.heap[b]?=some (.cells cc 3 (0,0))
 parts:w'.ownsRow w0.heap.size 65 2 (.slice y.po y.pn y.pc) y.pn (Ar Fk x.pl.parts)
def Agz (w:World) (x:ai) (e:Ending) (w':World):Prop:=∃ y,e=.returned y.val/\Mn w w' x y/\Below w.heap.size w w'
structure Ll (w:World) (y:ai) (W:World):Prop where
 low:Below w.heap.size w W
 res:W.heap[w.heap.size]?=some (.cells ai.zero.cells 46 (0,0))
 cp:W.heap[w.heap.size+1]?=some (.cells y.cells 46 (0,0))
def Ll.next {w W b:World} {y:ai} (h:Ll w y W) (a:Below W.heap.size W b):Ll w y b:=
 ⟨h.low.trans (a.mono h.low.size),Ae a h.res (Ab h.res),Ae a h.cp (Ab h.cp)⟩
def Ll.set {w W:World} {y z:ai} (h:Ll w y W) (o:Nat) (v:Value) (e:y.cells.setIfInBounds o v=z.cells):Ll w z (W.setCell ⟨w.heap.size+1,o,none⟩ v):=
 ⟨⟨h.low.os,h.low.tape,h.low.output,by have:=h.low.size;simpa [World.setCell] using this,fun k a=>(Cd _ _ _ _ (fun e=>by simp at e;omega)).trans (h.low.block k a)⟩,(Cd _ _ _ _ (fun e=>by simp at e)).trans h.res,by rw [<- e];exact Al h.cp _ _⟩
def Cj:(Tryz.prog.info? 46).map (·.size)=some 22:=by kernel_rfl
def D9 {B:Nat} {a w:World} (h:Below B a w) {g:Nat} (d:B<=g) (c:Array Value):Below B a (w.setRow g c):=
 ⟨h.os,h.tape,h.output,by have:=h.size;simpa [World.setRow] using this,fun k b=>(setRow_other w g k c (by omega)).trans (h.block k b)⟩
def Ll.new (w:World) (x:ai):Ll w x (((w.alloc (.cells Jz 46)).alloc (.cells Jz 46)).setRow (w.heap.size+1) x.cells):=
 ⟨D9 (Bn.alloc (by simp) _) (by omega) _,(setRow_other _ _ _ _ (by omega)).trans (Ai _ (Af _ _)),Dp _ _ _ _ _ _ (A2 _ _ (by simp))⟩
def Ag0 {S:Nat->Prop} {w:World} {g:Nat} (c:Array Value) (_:w=w) (h:S g):Mod S w (w.setRow g c):=⟨rfl,rfl,rfl,by simp [World.setRow],fun k _ a=>setRow_other w g k c (fun e=>a (e▸h))⟩
def Sm (a k:Nat):Prop:=k=a\/k=a+1
def Wv {w:World} {B B' size n:Nat} {T:TypeId} {v:Value} {xs:List Value} (h:w.ownsRow B T size v n xs) (a:B'<=B):w.ownsRow B' T size v n xs:=
 ⟨h.1,h.2.imp id fun ⟨g,cap,cur,e,hg,r⟩=>⟨g,cap,cur,e,A6 a hg,r⟩⟩
def Dz (x:ai):x.cells.all (·.oneCell')=true:=by simp [ai.cells,Value.oneCell']
def Aua {w:World} {b:Nat} {x:ai} {S:Nat->Prop} (a:A9 w b x) (j:N0 w S x) (h1:x.sn<=1000) (h2:x.gn<=1000) (h3:x.pn<=1000000) :
  Calls Tryz.prog 47 #[.pointer (some ⟨b,0,none⟩)] w (Agz w x):=by
 have al:=Ab a;have g:=Ll.new w x;obtain ⟨W1,r⟩:=Ex (((w.alloc (.cells Jz 46)).alloc (.cells Jz 46)).setRow (w.heap.size+1) x.cells);rw [<- r] at g;have am:w.heap.size+2=W1.heap.size:=by rw [r];simp [World.setRow]
 have s:(w.alloc (.cells Jz 46)).heap[b]?=some (.cells x.cells 46 (0,0)):=Ai _ a;have t:((w.alloc (.cells Jz 46)).alloc (.cells Jz 46)).heap[w.heap.size+1]?=some (.cells Jz 46 (0,0)):=A2 _ _ (by simp);have x1:=Bk (Ae g.low a al) 13 (.slice x.so x.sn x.sc) rfl;have an:∀ W,Below w.heap.size w W->Calls Tryz.prog 87 #[.slice x.so x.sn x.sc] W (Tm x.sn x.pl.sp.after W):=fun W hW=>Wt _ _ _ _ _ (j.after.row.low hW) h1;have ao:∀ W,Below w.heap.size w W->Calls Tryz.prog 87 #[.slice x.go x.gn x.gc] W (Tm x.gn x.pl.aj W):=fun W hW=>Wt _ _ _ _ _ (j.aj.row.low hW) h2;have ap:∀ W,Below w.heap.size w W->Calls Tryz.prog 88 #[.slice x.po x.pn x.pc] W (Wu W x):=fun W hW=>At9 (Bu.low j.parts hW) h3;have k1:=an _ g.low;replace ⟨a,j,h1,h2,h3,g,an,ao⟩:=H8 a j h1 h2 h3 g an ao;replace ⟨ap,k1,s,t,am⟩:=H5 ap k1 s t am;go_enter Tryz.func47,Tryz.ntmps47;go_upto_region 2 with (first | (refine wpList_load_row rfl 46 _ rfl b rfl 46 x.cells (0,0) _ (by first | exact s.out | exact a.out) Np rfl Cj ?_) | (refine Df rfl 46 _ _ rfl (w.heap.size+1) x.cells rfl rfl 46 _ t.out Cj rfl (Dz x) ?_));rw [<- r];clear r s t;go_wp2_with fail;refine k1.out.mono ?_;rintro e w2 ⟨s1,c1,rfl,q1,i1,f1,b1⟩;have l:=g.out.next b1;have aC:=Bk l.cp 13 (.slice x.so x.sn x.sc) rfl;have aD:=Ah l.cp;have h:Ll w { x with so:=s1,sc:=c1 } (w2.setCell ⟨w.heap.size+1,13,none⟩ (.slice s1 x.sn c1)):=l.set 13 _ rfl;obtain ⟨W3,u⟩:=Ex (w2.setCell ⟨w.heap.size+1,13,none⟩ (.slice s1 x.sn c1));rw [<- u] at h;have x2:=Bk (Ae h.low a.out al) 20 (.slice x.go x.gn x.gc) rfl;have k2:=ao.out _ h.low;replace ⟨q1,i1,f1,b1,l,h,k2⟩:=H7 q1 i1 f1 b1 l h k2;clear x1;go_upto_region 3 with fail;rw [<- u];have aA:=Hh u;clear u aC aD;go_wp2_with fail;refine k2.out.mono ?_;rintro e w4 ⟨s2,c2,rfl,q2,i2,f2,b2⟩;have m:=h.out.next b2;have aE:=Bk m.cp 20 (.slice x.go x.gn x.gc) rfl;have aF:=Ah m.cp;have i:Ll w { x with so:=s1,sc:=c1,go:=s2,gc:=c2 } (w4.setCell ⟨w.heap.size+1,20,none⟩ (.slice s2 x.gn c2)):=m.set 20 _ rfl;obtain ⟨W5,z⟩:=Ex (w4.setCell ⟨w.heap.size+1,20,none⟩ (.slice s2 x.gn c2));rw [<- z] at i;have x3:=Bk (Ae i.low a.out al) 21 (.slice x.po x.pn x.pc) rfl;have k3:=ap.out _ i.low;replace ⟨q2,i2,f2,b2,m,i,k3⟩:=H7 q2 i2 f2 b2 m i k3;clear x2;go_upto_region 4 with fail;rw [<- z];have aB:=Hh z;clear z aE aF;go_wp2_with fail;refine k3.out.mono ?_;rintro e w6 ⟨s3,c3,rfl,o3,b3⟩;have n:=i.out.next b3;have aG:=Bk n.cp 21 (.slice x.po x.pn x.pc) rfl;have aH:=Ah n.cp;have d:Ll w { x with so:=s1,sc:=c1,go:=s2,gc:=c2,po:=s3,pc:=c3 } (w6.setCell ⟨w.heap.size+1,21,none⟩ (.slice s3 x.pn c3)):=n.set 21 _ rfl;obtain ⟨W7,ac⟩:=Ex (w6.setCell ⟨w.heap.size+1,21,none⟩ (.slice s3 x.pn c3));rw [<- ac] at d
 have b7:∀ S:Nat->Prop,S (w.heap.size+1)->Mod S w6 W7:=fun S hS=>by rw [ac];exact Mod.setCell _ _ _ _ hS
 obtain ⟨y,hy⟩:∃ y:ai,y={ x with so:=s1,sc:=c1,go:=s2,gc:=c2,po:=s3,pc:=c3 }:=⟨_,rfl⟩;rw [<- hy] at d;have av:=d.cp;have ad:=d.res;have p:(W7.setRow w.heap.size y.cells).heap[w.heap.size]?=some (.cells y.cells 46 (0,0)):=Dp _ _ _ _ _ _ ad;have q:=D9 d.low Ln y.cells
 have f:Agz w x (.returned y.val) (W7.setRow w.heap.size y.cells):=by
  have m3:Mod (Sm w.heap.size) w2 W3:=by rw [aA.out];exact Mod.setCell _ _ _ _ (.inr rfl)
  have m5:Mod (Sm w.heap.size) w4 W5:=by rw [aB.out];exact Mod.setCell _ _ _ _ (.inr rfl)
  have m7:Mod (Sm w.heap.size) w6 W7:=b7 _ (.inr rfl);have me:Mod (Sm w.heap.size) W7 (W7.setRow w.heap.size y.cells):=Ag0 _ rfl (.inl rfl);have M6:=m7.trans me;have M4:=(m5.trans (Mod.af b3)).trans M6;have M2:=(m3.trans (Mod.af b2.out)).trans M4;have n1:=am.out;have n3:=m3.size;have n2:=b1.out.size;have n4:=b2.out.size;have n5:=m5.size;have j1:=(D5.mod (⟨i1.out,fun _ b o e c=>by obtain ⟨_,e2,_⟩:=f1.out b o e;rcases c with c | c<;>omega⟩:D5 w2 (Sm w.heap.size) s1 x.sn x.pl.sp.after) M2 fun _ _ c=>c).row;have j2:=(D5.mod (⟨i2.out,fun _ b o e c=>by obtain ⟨_,e2,_⟩:=f2.out b o e;rcases c with c | c<;>omega⟩:D5 w4 (Sm w.heap.size) s2 x.gn x.pl.aj) M4 fun _ _ c=>c).row
  have j3:=Wv (Bb o3 M6 fun k e c=>by
   obtain ⟨_,_,e2⟩:=C1 o3 e
   rcases c with c | c<;>omega) (show w.heap.size<=W5.heap.size by omega)
  refine ⟨y,rfl,?_,q⟩;subst hy
  exact ⟨rfl,rfl,rfl,rfl,j1,q1.out,fun b o e=>by obtain ⟨_,e2,_⟩:=f1.out b o e;omega,fun b o e=>by
    obtain ⟨_,e2,_,cc,e4⟩:=f1.out b o e
    exact ⟨cc,M2.aq e4 (fun c=>by rcases c with c | c<;>omega)⟩,j2,q2.out,fun b o e=>by obtain ⟨_,e2,_⟩:=f2.out b o e;omega,fun b o e=>by
    obtain ⟨_,e2,_,cc,e4⟩:=f2.out b o e
    exact ⟨cc,M4.aq e4 (fun c=>by rcases c with c | c<;>omega)⟩,j3⟩
 replace ⟨o3,b3,n,d,b7,hy,av,ad⟩:=H8 o3 b3 n d b7 hy av ad;replace ⟨p,q,f⟩:=H3 p q f;clear x3;go_upto_region 5 with fail;rw [<- ac];clear ac aG aH;go_wp2_with (first | (refine wpList_load_row rfl 46 _ rfl (w.heap.size+1) rfl 46 y.cells (0,0) _ av.out Np rfl Cj ?_) | ((refine Df rfl 46 _ _ rfl w.heap.size y.cells rfl rfl 46 _ ad.out Cj rfl (Dz y) ?_)));refine Ao (v:=y.val) ?_ rfl f.out;exact results_cell_row rfl _ _ w.heap.size 46 y.cells (0,0) _ rfl p.out Np rfl Cj
def F8 {B:Nat} {a w:World} (h:Below B a w) {g o:Nat} {v:Value} (c:B<=g):Below B a (w.setCell ⟨g,o,none⟩ v):=
 ⟨h.os,h.tape,h.output,by have:=h.size;simpa [World.setCell] using this,fun k b=>(Cd _ _ _ _ (fun e=>by simp at e;omega)).trans (h.block k b)⟩
def Aub (w:World) (c:Cl) (e:Ending) (w':World):Prop:=e=.returned (.tuple #[.int .i64 c.seq,E1 c])/\Below w.heap.size w w'
def Auc (a:Int) (w:World):Calls Tryz.prog 32 #[.pointer none,.int .i64 a] w (Aub w Cl.zero):=by
 go_enter Tryz.func32,Tryz.ntmps32;go_wp2;refine Ao (v:=.tuple #[.int .i64 0,E1 Cl.zero]) (by simp [results,Tryz.results32,go_sem,Cl.zero]) rfl ⟨rfl,?_⟩;exact Bn
def Sn {P:Program} {fn:Func} {p t0:Tmp} {a:TypeId} (h:fn.results=#[.cell p a,.tmp t0]) (tmps:Array Value) (w:World) (g:Nat) (t:TypeId) (cs:Array Value) (fr:Nat×Nat) (d:TypeDesc)
  (c:tmps.getD p undef=.pointer (some ⟨g,0,none⟩)) (e:w.heap[g]?=some (.cells cs t fr))
  (f:P.underlying a=some d) (i:(match d with | .struct _ | .array _ _=>true | _=>false)=true) (j:(P.info? a).map (·.size)=some cs.size) :
  (results fn tmps).run P w=.ok (.tuple #[.agg cs,tmps.getD t0 undef]) w:=by
 have b:tmps[p]?.getD undef=.pointer (some ⟨g,0,none⟩):=by simpa using c
 simp [results,h,b,asAddr,run_loadVar_row w g t a cs fr d e f i j]
def Ww (w:World) (T:Tv) (id:Int) (e:Ending) (w':World):Prop:=
 Below w.heap.size w w'/\(((id<1\/(T.js.length:Int)<id)/\e=.returned (.tuple #[ai.zero.val,.bool false]))\/∃ (k:Nat) (j:Nat×ai) (y:ai),id=(k:Int)+1/\T.js[k]?=some j/\e=.returned (.tuple #[y.val,.bool true])/\Mn w w' j.2 y)
def Ag1 (x:ai):Prop:=x.sn<=1000/\x.gn<=1000/\x.pn<=1000000
def Mn.mod {g w' i:World} {x y:ai} {S:Nat->Prop} (h:Mn g w' x y) (d:Mod S w' i) (f:∀ b,S b->∀ a,w'.heap[b]?≠some (.cells a 3 (0,0))/\w'.heap[b]?≠some (.cells a 65 (0,0))):Mn g i x y:=by
 obtain ⟨a1,a2,a3,q,r,s,t,j,u,v,z,l,m⟩:=h
 have n:∀ b o,y.so=some ⟨b,o,none⟩->¬ S b:=fun b o e c=>by obtain ⟨a,h⟩:=j b o e;exact (f b c a).1 h
 have p:∀ b o,y.go=some ⟨b,o,none⟩->¬ S b:=fun b o e c=>by obtain ⟨a,h⟩:=l b o e;exact (f b c a).1 h
 refine ⟨a1,a2,a3,q,?_,s,t,fun b o e=>?_,?_,v,z,fun b o e=>?_,Bb m d fun k e c=>?_⟩
 .exact (D5.mod (⟨r,fun _ b o e c=>n b o e c⟩:D5 w' S y.so y.sn x.pl.sp.after) d fun _ _ c=>c).row
 .obtain ⟨a,h⟩:=j b o e;exact ⟨a,d.aq h (n b o e)⟩
 .exact (D5.mod (⟨u,fun _ b o e c=>p b o e c⟩:D5 w' S y.go y.gn x.pl.aj) d fun _ _ c=>c).row
 .obtain ⟨a,h⟩:=l b o e;exact ⟨a,d.aq h (p b o e)⟩
 .obtain ⟨a,h,_⟩:=C1 m e;exact (f k c a).2 h
def Mn.wk {a w' d:World} {x y:ai} (h:Mn a w' x y) {g:Nat} {cs:Array Value} (e:w'.heap[g]?=some (.cells cs 46 (0,0))) (f:Mod (fun k=>k=g) w' d):Mn a d x y:=
 h.mod f fun b c i=>by
  subst c;rw [e];exact ⟨by simp,by simp⟩
def Mn.mono {c w1 w':World} {x y:ai} (h:Mn c w' x y) (a:w1.heap.size<=c.heap.size):Mn w1 w' x y:=
 ⟨h.pl,h.sn,h.gn,h.pn,h.after,h.nu,fun b o e=>A6 a (h.tg b o e),h.wi,h.aj,h.mi,fun b o e=>A6 a (h.tf b o e),h.vx,Wv h.parts a⟩
def Aud {w:World} {T:Tv} (h:An w T) (i:∀ j,j∈T.js->Ag1 j.2) (id:Int) :
  Calls Tryz.prog 16 #[.pointer (some ⟨T.tb,0,none⟩),.int .i64 id] w (Ww w T id):=by
 obtain ⟨W0,c⟩:=Ex (w.alloc (.cells Jz 46));have o:Below w.heap.size w W0:=by rw [c];exact Bn
 have ad:=o.size;have al:w.heap.size<W0.heap.size:=by rw [c];simp
 have n:=h.low o;have q:W0.heap[w.heap.size]?=some (.cells ai.zero.cells 46 (0,0)):=by rw [c];exact Af _ _
 obtain ⟨m,t⟩:=Ex (T.js.length);obtain ⟨tb,u⟩:=Ex (T.tb)
 obtain ⟨so,cap,c4,d⟩:∃ so cap,W0.cell? ⟨T.tb,4,none⟩=some (.slice so T.js.length cap)/\T.js.length<=9223372036854775807:=by
  rcases n.ab.2 with ⟨e,h0⟩ | ⟨g,cap,an,e,_,_,h1,h2,_⟩
  .exact ⟨none,0,by rw [Aa n.head 4,h0,<- e];rfl,by omega⟩
  .exact ⟨_,_,by rw [Aa n.head 4,<- e];rfl,by unfold maxLen at h2;omega⟩
 rw [<- t,<- u] at c4;rw [<- t] at d;rw [<- u];by_cases q1:id<1
 .have l:Ww w T id (.returned (.tuple #[ai.zero.val,.bool false])) (W0.setRow w.heap.size ai.zero.cells):=⟨D9 o Ln _,.inl ⟨.inl q1,rfl⟩⟩;have a:=Dp W0 w.heap.size _ ai.zero.cells 46 (0,0) q;replace ⟨h,i,o,n,q,t,u,d⟩:=H8 h i o n q t u d;replace ⟨l,a⟩:=H2 l a;go_enter Tryz.func16,Rj;go_upto_region 1 with fail;rw [<- c];clear c;go_wp2_with (refine Df rfl 46 _ _ rfl w.heap.size ai.zero.cells rfl rfl 46 _ q.out Cj rfl (Dz ai.zero) ?_);refine Ao (v:=.tuple #[ai.zero.val,.bool false]) ?_ rfl l.out;exact Sn (p:=4) (t0:=5) rfl _ _ w.heap.size 46 ai.zero.cells (0,0) _ rfl a.out Np rfl Cj
 by_cases q2:(m:Int)<id
 .have l:Ww w T id (.returned (.tuple #[ai.zero.val,.bool false])) (W0.setRow w.heap.size ai.zero.cells):=⟨D9 o Ln _,.inl ⟨.inr (by rw [<- t];exact q2),rfl⟩⟩;have a:=Dp W0 w.heap.size _ ai.zero.cells 46 (0,0) q;replace ⟨h,i,o,n,q,t,u,d⟩:=H8 h i o n q t u d;replace ⟨l,a⟩:=H2 l a;go_enter Tryz.func16,Rj;go_upto_region 1 with fail;rw [<- c];clear c;go_wp2_with (refine Df rfl 46 _ _ rfl w.heap.size ai.zero.cells rfl rfl 46 _ q.out Cj rfl (Dz ai.zero) ?_);refine Ao (v:=.tuple #[ai.zero.val,.bool false]) ?_ rfl l.out;exact Sn (p:=4) (t0:=5) rfl _ _ w.heap.size 46 ai.zero.cells (0,0) _ rfl a.out Np rfl Cj
 obtain ⟨k,rfl⟩:∃ k:Nat,id=(k:Int)+1:=⟨(id-1).toNat,by omega⟩;have hk:k<T.js.length:=by omega
 obtain ⟨j,hj⟩:∃ j,T.js[k]?=some j:=⟨_,Am hk⟩;obtain ⟨g,am,z,cj,_,_⟩:=n.ll hj;rw [<- t,<- u] at z;rw [z] at c4;injection c4 with c4;injection c4 with e1 e2 e3;subst e1;subst e3;have c4:=z;clear z e2;have f:=Aj hj;obtain ⟨s1,s2,s3⟩:=i j f;have kc:=Aua (n.box j f) (n.ok j f) s1 s2 s3;have ao:(k:Int)<m:=by omega
 have ap:(0:Int)<=(k:Int):=by omega
 obtain ⟨b,x⟩:=j;simp only at cj kc;replace ⟨h,i,o,n,q,t,u,hj⟩:=H8 h i o n q t u hj;replace ⟨f,s1,s2,s3,kc⟩:=H5 f s1 s2 s3 kc;go_enter Tryz.func16,Rj;go_upto_region 1 with fail;rw [<- c];clear c;go_wp2_with fail;refine kc.out.mono ?_;rintro e w2 ⟨y,rfl,hy,ac⟩;have r:=Ae ac q.out al;have a:=Dp w2 w.heap.size _ y.cells 46 (0,0) r
 have s:Ww w T ((k:Int)+1) (.returned (.tuple #[y.val,.bool true])) (w2.setRow w.heap.size y.cells):=
  ⟨D9 (o.out.trans (ac.mono ad)) Ln _,.inr ⟨k,_,y,rfl,hj.out,rfl,(hy.wk r (Ag0 _ rfl rfl)).mono ad⟩⟩
 replace ⟨hy,ac,r,a,s⟩:=H5 hy ac r a s;clear c4 cj;go_wp2_with (refine Df rfl 46 _ _ rfl w.heap.size y.cells rfl rfl 46 _ r.out Cj rfl (Dz y) ?_);refine Ao (v:=.tuple #[y.val,.bool true]) ?_ rfl s.out;exact Sn (p:=4) (t0:=5) rfl _ _ w.heap.size 46 y.cells (0,0) _ rfl a.out Np rfl Cj
def Aue (w:World):Calls Tryz.prog 20 #[.pointer none] w fun e w'=>e=.returned (.slice none 0 0)/\w'=w:=by
 go_enter Tryz.func20,Tryz.ntmps20;go_wp2;go_ret;exact ⟨rfl,rfl⟩
def Avb {w:World} {T:Tv} (h:An w T) {i:Nat} {j:Nat×ai} (hj:T.js[i]?=some j) (hr:∀ d,d∈j.2.pl.sp.after->1<=d/\d<=(T.js.length:Int)) :
  Calls Tryz.prog 189 #[.pointer (some ⟨T.tb,0,none⟩),.pointer (some ⟨j.1,0,none⟩)] w fun e w'=>e=.returned (.bool (Ji T.pl.ab j.2.pl))/\Below w.heap.size w w':=by
 have b:=Aj hj;have cs:=Bk (h.box j b) 13 (.slice j.2.so j.2.sn j.2.sc) rfl;have ct:=Bk (h.box j b) 14 (.int .i64 j.2.pl.lf.st) rfl;have ak:=(h.ok j b).after.row;obtain ⟨y,c⟩:=Ex (w.alloc (.cells #[.pointer (some ⟨T.tb,0,none⟩)] 27 (0,0)));have a:Below w.heap.size w y:=by rw [c];exact Bn
 have o:y.cell? ⟨w.heap.size,0,none⟩=some (.pointer (some ⟨T.tb,0,none⟩)):=by rw [c];exact Aa (Af _ _) 0
 have p:w.heap.size<y.heap.size:=by rw [c];simp
 have l:=(Ag a (Ab (h.box j b))).trans cs;have m:=(Ag a (Ab (h.box j b))).trans ct
 have g:=Ac2 247 #[.pointer (some ⟨w.heap.size,0,none⟩)] (fun d=>!decide (Lz T.pl.ab d=5)) j.2.so j.2.sn j.2.sc j.2.pl.sp.after y (ak.low a) Asl (fun d ac w1 r=>by
  obtain ⟨h1,h2⟩:=hr d ac;obtain ⟨k,rfl⟩:∃ k:Nat,d=(k:Int)+1:=⟨(d-1).toNat,by omega⟩
  exact (Asm ((h.low a).low r) w.heap.size ((Ag r p).trans o) k (by omega)).mono fun e w' ⟨he,hw⟩=>⟨he,by rw [hw];exact Below.refl _ _⟩)
 obtain ⟨q,hq⟩:=Ex ((j.2.pl.sp.after.any fun d=>!decide (Lz T.pl.ab d=5)));have hz:Ji T.pl.ab j.2.pl=(decide (j.2.pl.lf.st=1) && !q):=by rw [hq];unfold Ji;rw [List.all_eq_not_any_not]
 rw [<- hq] at g;rw [hz];obtain ⟨tb,z⟩:=Ex (T.tb);obtain ⟨jb,n⟩:=Ex (j.1);obtain ⟨so,s⟩:=Ex (j.2.so);obtain ⟨sn,t⟩:=Ex (j.2.sn);obtain ⟨sc,u⟩:=Ex (j.2.sc);obtain ⟨st,v⟩:=Ex (j.2.pl.lf.st);rw [<- s,<- t,<- u] at g l;rw [<- n] at l m;rw [<- v] at m ⊢;rw [c,<- z] at g;rw [c,<- z] at a l m;rw [<- z,<- n];clear hq hz ak cs ct o p c s t u n z h hj hr b v;by_cases x:st=1
 .subst x;replace ⟨g,a⟩:=H2 g a;go_enter Tryz.func189,Tryz.ntmps189;go_wp2_with fail;refine (g.out).mono ?_;rintro e w' ⟨rfl,hb⟩;have f:=a.out.trans (hb.mono a.out.size);replace ⟨f,hb⟩:=H2 f hb;go_wp2;go_ret;exact ⟨by simp,f.out⟩
 .replace ⟨g,a⟩:=H2 g a;go_enter Tryz.func189,Tryz.ntmps189;go_wp2_with fail
  all_goals
   go_ret;exact ⟨by simp [x],a.out⟩
end Go.Proofs.YtimlcnhcjndijaaGreatDoor
