/- Parts of a proof. No condition. -/
import Derived.Test.YtimlcnhcjndijaaGreatDoorG17
import Derived.Test.YtimlcnhcjndijaaGreatDoorG20
set_option linter.all false
set_option maxRecDepth 100000
set_option maxHeartbeats 3200000
namespace Go.Proofs.YtimlcnhcjndijaaGreatDoor
open Option renaming none->I,some->Z
open Value renaming pointer->Q,int->G,slice->J,string->Y,bool->D,tuple->E
open IntKind renaming i64->O
open Ending renaming returned->K
open Obj renaming cells->V
open Go renaming World->WD,Value->VL,Calls->CS
open Go.RowKit renaming Below->BW
open Go.Proofs.Tryz
section
open Go.RowKit Go.Maps Go.Lib
def Oq (s:dm) (after:List Int) (id:Int):Jb:=⟨id,{ s with array:=1,after:=after },(Kl s.ae s.held).1,-1,[],[]⟩
def Jk (s:dm) (after:List Int) (js:List Jb):Nat->List Jb
 | 0=>js
 | n+1=>Jk s after js n++[Oq s after ((js.length+n+1:Nat):Int)]
def E1:List (dm×List Int)->List Jb->List Jb
 | [],js=>js
 | p :: l,js=>E1 l (Jk p.1 p.2 js p.1.array.toNat)
def Id (l:List dm):Int:=(l.map λs=>s.array).foldl (·+·) 0
def Td (ns:List Er) (i:Int):Er:=(ns[i.toNat]?).getD ⟨false,false,-1⟩
def Lp (t:du) (e:dh):Int:=
 if (t.nodes.length:Int)<=e.node then 142
 else if e.kind=8\/e.kind=9 then(if e.tick<t.tick then 141 else if (Td t.nodes e.node).up≠decide (e.kind=8)then 100 else 0)
 else if e.kind=10\/e.kind=11 then(if (Td t.nodes e.node).bq≠decide (e.kind=11)then 100 else 0)
 else 0
def F5 (js:List Jb) (id:Int):Jb:=(js[(id-1).toNat]?).getD ⟨0,dm.zero,Lf.zero,0,[],[]⟩
def J7 (t:du) (e:dh):Int:=
 if (t.ab.length:Int)<e.bt then 90
 else if e.kind≠7 then(A3 (F5 t.ab e.bt).lf (Gh e.kind)).2
 else if Gt (F5 t.ab e.bt) e.attempt e.node=I then 100 else 0
def du.gh (t:du) (js:List Jb):du:={ t with ab:=js }
def Et (js:List Jb) (id:Int) (f:Jb->Jb):List Jb:=js.modify (id-1).toNat f
def Lq (s:Int) (j:Jb):Jb:=if dp (j.move s).lf.st=true then j.move s else(j.move s).bare
def Aie (t:du) (e:dh):du×Cl:=(t.gh (Dp (Et t.ab e.bt (Lq (Gh e.kind)))),⟨0,0,e.bt,e.bt⟩)
def Lr (e:dh) (j:Jb):Jb:=match Gt j e.attempt e.node with
 | none=>j
 | some k=>Fw j k e.br
def Aif (t:du) (e:dh):du:=t.gh (Ia (Et t.ab e.bt (Lr e)))
def Px (t:du) (e:dh):du:=
 if e.kind=8 then { t with nodes:=t.nodes.modify e.node.toNat (λn=>⟨false,n.bq,n.since⟩),ab:=Ia (t.ab.map λj=>Fx j e.node) }
 else if e.kind=9 then { t with nodes:=t.nodes.modify e.node.toNat (λn=>⟨true,n.bq,e.tick⟩) }
 else { t with nodes:=t.nodes.modify e.node.toNat (λn=>⟨n.up,decide (e.kind=10),n.since⟩) }
def Kr (j:Jb):V4:=U5 { j.sp with after:=[] }
def Dx (js:List Jb):List eo:=(js.filter λj=>j.live).map λj=>⟨j.sp.user,Kr j⟩
def Ie (js:List Jb):List (List Int×V4×Int):=(js.filter λj=>j.live).map λj=>((j.parts.filter λp=>decide (p.2=0)).map Prod.fst,j.sp.df,Lg j)
def Bx (js:List Jb):List dj:=(js.filter λj=>J2 js j).map λj=>⟨j.id,j.sp.user,j.sp.prio,Kr j⟩
def I0 (t:Int) (j:Jb):Jb:=if j.live=true/\Lg j<=t then Fx j (-1)else j
def vj (t:du):List Bool:=t.nodes.map λn=>n.up && !n.bq && decide (n.since<t.tick)
def I1 (j:Jb):Jb:=if j.lf.st=1 then j.bare else j
def Ls (tick st:Int) (zs:List Int) (j:Jb):Jb:=
 if st=tick then⟨j.id,j.sp,(A3 j.lf 3).1,st,zs,j.parts++zs.map λn=>(n,0)⟩else⟨j.id,j.sp,j.lf,st,zs,j.parts⟩
def Jl (tick:Int):List (Int×Int×List Int)->List Jb->List Jb
 | [],js=>js
 | s :: l,js=>Jl tick l (Et js s.1 (Ls tick s.2.1 s.2.2))
def Adk (j:Jb):Prop:=-1<=j.start/\j.start<=1099511627776/\0<=j.sp.wall/\j.sp.wall<=1099511627776
def Ak9 {w:WD} {b:Nat} {x:ar} (d:Bc w b x) (k:Adk x.pl):CS prog 132 #[Q (Z ⟨b,0,I⟩)] w λe w'=>e=K (G O (Lg x.pl))/\∃n,w'=w.drewN n:=by
 obtain⟨h1,h,i,j⟩:=k;obtain⟨s,a⟩:=Ex (x.pl.start);obtain⟨v,c⟩:=Ex (x.pl.sp.wall);have g:w.cell? ⟨b,19,I⟩=Z (G O s):=by rw[a];exact Aa d 19
 have l:w.cell? ⟨b,8,I⟩=Z (G O v):=by rw[c];exact Aa d 8
 have f:Lg x.pl=s+8+v:=by rw[a,c];rfl
 rw[<-a]at h1 h;rw[<-c]at i j;have w1:IntKind.i64.wrap (s+8)=s+8:=Ig ao9 ao9;have m:IntKind.i64.wrap (s+8+v)=s+8+v:=Ig ao9 ao9;replace⟨d,f,a,c⟩:=H4 d f a c;go_enter func132,ntmps132;go_upto_region 1 with fail;go_quiet (fail);go_wp2_with fail;go_ret;exact⟨by rw[f.out];rfl,_,rfl⟩
def Ala {w:WD} {b:Nat} {x:ar} {S:Nat->Prop} (k:Bc w b x) (s:Np w S x):CS prog 184 #[Q (Z ⟨b,0,I⟩)] w λe w'=>e=K (Kr x.pl).val/\BW w.heap.size w w':=by
 obtain⟨⟨id,⟨g,d,nodes,⟨u,y,z,dd⟩,h,f,array,t,c,after⟩,lf,start,ak,parts⟩,so,sn,sc,go,gn,gc,po,pn,pc⟩:=x;obtain⟨⟨na,nb,nc,nd⟩,r⟩:∃v,v=U5 ⟨g,d,nodes,⟨u,y,z,dd⟩,h,f,array,t,c,[]⟩:=⟨_,rfl⟩
 have kn:∀W,CS prog 234 #[.agg #[Y g,Y d,G O nodes,G O u,G O y,G O z,G O dd,G O h,G O f,G O array,G O t,D c,J I 0 0]] W λe w'=>e=K (.agg #[G O na,G O nb,G O nc,G O nd])/\BW W.heap.size W w':=λW=>by
  have:=Arb ⟨⟨g,d,nodes,⟨u,y,z,dd⟩,h,f,array,t,c,[]⟩,I,0,0⟩ W ⟨U2 W,Nat.le_refl _,s.user,s.part⟩;rw[<-r]at this;exact this
 have y1:=Bk k 1 (Y g) rfl;have y2:=Bk k 2 (Y d) rfl;have y3:=Bk k 3 (G O nodes) rfl;have y4:=Bk k 4 (G O u) rfl;have y5:=Bk k 5 (G O y) rfl;have y6:=Bk k 6 (G O z) rfl;have y7:=Bk k 7 (G O dd) rfl;have y8:=Bk k 8 (G O h) rfl;have y9:=Bk k 9 (G O f) rfl;have al:=Bk k 10 (G O array) rfl;have am:=Bk k 11 (G O t) rfl;have an:=Bk k 12 (D c) rfl;have ao:=Bk k 13 (J so sn sc) rfl;have av:=Ab k;obtain⟨W1,l⟩:=Ex ((w.alloc (V #[G O 0,G O 0,G O 0,G O 0] 30)).alloc (V #[Y g,Y d,G O nodes,G O u,G O y,G O z,G O dd,G O h,G O f,G O array,G O t,D c,J so sn sc] 33));have n:BW w.heap.size w W1:=by rw[l];exact Bn.alloc as9 _
 have o:W1.heap[w.heap.size]?=Z (V #[G O 0,G O 0,G O 0,G O 0] 30 (0,0)):=by rw[l];exact Aj _ (Ah _ _)
 have p:W1.heap[w.heap.size+1]?=Z (V #[Y g,Y d,G O nodes,G O u,G O y,G O z,G O dd,G O h,G O f,G O array,G O t,D c,J so sn sc] 33 (0,0)):=by rw[l];exact A5 _ _ as9
 have hz:(Kr ⟨id,⟨g,d,nodes,⟨u,y,z,dd⟩,h,f,array,t,c,after⟩,lf,start,ak,parts⟩)=⟨na,nb,nc,nd⟩:=r.symm;have ap:=Bk p 12 (J so sn sc) rfl;have fz:=Af p;obtain⟨W2,m⟩:=Ex (W1.setCell ⟨w.heap.size+1,12,I⟩ (J I 0 0));have i:BW w.heap.size w W2:=by rw[m];exact Cc n ao9
 have a:W2.heap[w.heap.size]?=Z (V #[G O 0,G O 0,G O 0,G O 0] 30 (0,0)):=by rw[m];exact(Cm _ _ _ _ (λe=>by simp at e)).trans o
 have q:W2.heap[w.heap.size+1]?=Z (V #[Y g,Y d,G O nodes,G O u,G O y,G O z,G O dd,G O h,G O f,G O array,G O t,D c,J I 0 0] 33 (0,0)):=by rw[m];have:=Am p 12 (J I 0 0);simpa using this
 replace⟨k,s,r,kn,n,o,p,hz⟩:=H8 k s r kn n o p hz;replace⟨i,a,q⟩:=H3 i a q;go_enter func184,ntmps184;go_upto_region 2 with fail;rw[<-l];clear l y1 y2 y3 y4 y5 y6 y7 y8 y9 al am an ao;go_upto_region 3 with fail;rw[<-m];clear m ap fz;obtain⟨s0,s1,s2,s3,s4,s5,s6,s7,s8,s9,ac,ad,af⟩:=C13 q.out;(try dsimp only at s0 s1 s2 s3 s4 s5 s6 s7 s8 s9 ac ad af);go_wp2_with (go_at_call 234;(with_reducible refine(kn.out _).mono ?_);rintro e w3 ⟨rfl,j⟩;have r0:w3.cell? ⟨w.heap.size,0,I⟩=Z (G O 0):=Aa (Ae j a.out (Ab a.out)) 0;have r1:w3.cell? ⟨w.heap.size,1,I⟩=Z (G O 0):=Aa (Ae j a.out (Ab a.out)) 1;have r2:w3.cell? ⟨w.heap.size,2,I⟩=Z (G O 0):=Aa (Ae j a.out (Ab a.out)) 2;have r3:w3.cell? ⟨w.heap.size,3,I⟩=Z (G O 0):=Aa (Ae j a.out (Ab a.out)) 3;have fr:=Af (Ae j a.out (Ab a.out));replace j:=Hh j);refine Ak (v:=V4.val ⟨na,nb,nc,nd⟩) (by simp[results,results184,go_sem,r0,r1,r2,r3]) rfl ⟨by rw[hz.out],?_⟩;exact Cc (Cc (Cc (Cc (i.trans (j.mono i.size)) ao9) ao9) ao9) ao9
def Axq:∀args w,(callFunc 247 args).run prog w=.ok (.enter 247 args) w:=I8 func247 ad9 (by simp[f247])
def Axr {w:WD} {T:Tv} (h:An w T) (f:Nat) (c:w.cell? ⟨f,0,I⟩=Z (Q (Z ⟨T.tb,0,I⟩))) (k:Nat) (n:k<T.js.length) :
  CS prog 247 (#[G O ((k:Int)+1)]++#[Q (Z ⟨f,0,I⟩)]) w λe w'=>e=K (D (!decide (Me T.pl.ab ((k:Int)+1)=5)))/\w'=w:=by
 obtain⟨j,b⟩:=Ge T.js k n;rw[Ahz b];obtain⟨g,cap,i,r,z,_⟩:=h.lh b;obtain⟨tb,q⟩:=Ex (T.tb);obtain⟨jb,a⟩:=Ex (j.1);obtain⟨m,o⟩:=Ex (T.js.length);obtain⟨s,d⟩:=Ex (j.2.pl.lf.st);have cs:w.cell? ⟨j.1,14,I⟩=Z (G O j.2.pl.lf.st):=Aa (h.box j (Ai b)) 14
 have p:m<=9223372036854775807:=by
  rcases h.ab.2 with⟨_,u⟩|⟨g',l,t,u,_,_,h1,v,_⟩
  .omega
  .unfold maxLen at v;omega
 rw[<-a,<-d]at cs;rw[<-q]at i c;rw[<-o]at i n;rw[<-a]at r;rw[<-d];have y:(k:Int)<m:=ao9
 have x:(0:Int)<=(k:Int):=ao9
 clear q a o d h b;go_enter func247,ntmps247;go_wp2_with fail;go_ret;exact⟨by first|rfl|(congr 1;congr 1;simp[bne];rfl)|simp[bne],rfl⟩
abbrev F9 (c:Cl):VL:=.agg #[G O c.e,G O c.first,G O c.last]
def Ado (w:WD) (T:Tv) (X:List Jb) (c:Cl) (e:Ending) (w':WD):Prop:=e=K (F9 c)/\∃js,Bw w T js w'/\js.map (λj=>j.2.pl)=X
structure ui (w:WD) (x:de) (wr:WD):Prop where
 low:BW w.heap.size w wr
 box:wr.heap[w.heap.size]?=Z (V x.cells 40 (0,0))
 res:wr.heap[w.heap.size+1]?=Z (V #[G O 0,G O 0,G O 0] 35 (0,0))
def ui.new (w:WD) (x:de):ui w x ((w.alloc (V x.cells 40 (0,0))).alloc (V #[G O 0,G O 0,G O 0] 35 (0,0))):=
 ⟨Bn.alloc as9 _,Aj _ (Ah _ _),A5 _ _ as9⟩
structure Cj (w:WD) (T:Tv) (x:de) (js:List (Nat×ar)) (wr:WD):Prop where
 tab:Bw w T js wr
 box:wr.heap[w.heap.size]?=Z (V x.cells 40 (0,0))
 res:wr.heap[w.heap.size+1]?=Z (V #[G O 0,G O 0,G O 0] 35 (0,0))
def Cj.new {w:WD} {T:Tv} (h:An w T) (x:de):Cj w T x T.js ((w.alloc (V x.cells 40 (0,0))).alloc (V #[G O 0,G O 0,G O 0] 35 (0,0))):=
 ⟨(Bw.refl h).low (ui.new w x).low,(ui.new w x).box,(ui.new w x).res⟩
def Cj.low {w wr w':WD} {T:Tv} {x:de} {js:List (Nat×ar)} (h:Cj w T x js wr) (a:BW wr.heap.size wr w'):Cj w T x js w':=⟨h.tab.low a,Ae a h.box (Ab h.box),Ae a h.res (Ab h.res)⟩
def Cj.then {w wr w':WD} {T:Tv} {x:de} {js a:List (Nat×ar)} (h:Cj w T x js wr) (b:Bw wr { T with js:=js } a w'):Cj w T x a w':=
 ⟨h.tab.then b,b.mod.aw h.box (h.tab.at_.off h.box ad9 ad9 ad9 ad9 ad9),b.mod.aw h.res (h.tab.at_.off h.res ad9 ad9 ad9 ad9 ad9)⟩
def Cj.dq {w wr w':WD} {T:Tv} {e:de} {js:List (Nat×ar)} (h:Cj w T e js wr) {i b:Nat} {x y:ar} (g:js[i]?=Z (b,x)) (d:Mod (Gd (b,x)) wr w') (a:Bc w' b y) (f:Bv w' y) (c:Ic x y):Cj w T e (js.set i (b,y)) w':=
 h.then ((Bw.refl (T:={ T with js:=js }) h.tab.at_).dq g d a f c)
def Cj.rz {w wr:WD} {T:Tv} {x:de} {js:List (Nat×ar)} (h:Cj w T x js wr) (h0:An w T) (a b c:VL):Bw w T js (((wr.setCell ⟨w.heap.size+1,0,I⟩ a).setCell ⟨w.heap.size+1,1,I⟩ b).setCell ⟨w.heap.size+1,2,I⟩ c):=
 h.tab.gg h0 h.res ((((Mod.refl (λk=>k=w.heap.size+1) wr).set _ 0 a rfl).set _ 1 b rfl).set _ 2 c rfl) ao9 ad9 ad9 ad9 ad9 ad9 ad9
def Ayl (s:Int) (j:Jb):(Lq s j).sp=j.sp:=by
 unfold Lq
 split<;>rfl
def Alj (js:List Jb) (i:Nat) (f:Jb->Jb) (a:∀j,(f j).sp=j.sp):(js.modify i f).map Jb.sp=js.map Jb.sp:=by
 apply Eg;intro k;simp only[Bg,Fp]
 cases js[k]? with
 | none=>rfl
 | some j=>
  simp only[Kj];split
  .exact Cd Z (a j)
  .rfl
def Aym {w:WD} {T:Tv} (x:de) (h:An w T) (ha:Ed T.pl.ab) (k:Nat) (hk:k<T.js.length) (hj:x.n.bt=(k:Int)+1) :
  CS prog 86 #[Q (Z ⟨T.tb,0,I⟩),x.val] w (Ado w T (Dp (Et T.pl.ab x.n.bt (Lq (Gh x.n.kind)))) ⟨0,0,x.n.bt,x.n.bt⟩):=by
 have t:=Cj.new h x;obtain⟨W0,aC⟩:=Ex ((w.alloc (V x.cells 40 (0,0))).alloc (V #[G O 0,G O 0,G O 0] 35 (0,0)));rw[<-aC]at t;obtain⟨j,d⟩:=Ge T.js k hk;obtain⟨g,cap,c4,cj,aL,_⟩:=t.tab.at_.lh d;have aI:W0.cell? ⟨T.tb,4,I⟩=Z (J (Z ⟨g,0,I⟩) T.js.length cap):=c4;have aJ:T.js.length<=9223372036854775807:=by obtain⟨_,_,_,_,hm,_⟩:=h.ny;exact hm
 obtain⟨i,b⟩:=j;obtain⟨tb,ht⟩:=Ex (T.tb);obtain⟨m,hm⟩:=Ex (T.js.length);obtain⟨s,hs⟩:=Ex (Gh x.n.kind)
 have aG:1<=s/\s<=8:=by rw[hs];unfold Gh;split<;>(try split)<;>omega
 have ks:=λW=>Aib x.n.kind W;rw[<-hs]at ks;obtain⟨l,hl⟩:=Ex ((A3 b.pl.lf s).1);have av:=λ(W:WD) (hW:Bc W i b)=>Ta hW s aG;rw[<-hl]at av;obtain⟨X1,ad⟩:=Ex (Et T.pl.ab x.n.bt (Lq s));have o:X1=T.pl.ab.modify k (Lq s):=by rw[ad,hj];unfold Et;rw[show((k:Int)+1-1).toNat=k by omega]
 have am:Ed X1:=by rw[o];exact Ra ha (Alj _ _ _ (Ayl s))
 have p:Lq s b.pl=if dp l.st=true then(b.bm l).pl else(b.bm l).bare.pl:=by rw[hl];rfl
 rw[<-hs,<-ad,<-ht];rw[<-ht,<-hm]at aI;have kl:=λW=>Q8 l.st W;obtain⟨q,hq⟩:=Ex (dp l.st);rw[<-hq]at kl p;obtain⟨⟨kd,ep,tk,cl,sq,jn,an,nn,hw⟩,so,sn,sc,di⟩:=x;simp only at hj ad ks;subst hj;have e0:=Bk t.box 0 (G O kd) rfl;have e5:=Bk t.box 5 (G O ((k:Int)+1)) rfl;have aN:(k:Int)<m:=ao9
 have aM:(0:Int)<=(k:Int):=ao9
 rw[hm.symm]at aJ;replace⟨h,ha,t,d,ht,hm,hs,aG⟩:=H8 h ha t d ht hm hs aG;replace⟨ks,hl,av,ad,o,am,p,kl⟩:=H8 ks hl av ad o am p kl;replace hq:=Hh hq;clear c4 aL hk;go_enter func86,ntmps86;go_wp2_with fail;rw[<-aC];clear aC;go_quiet (fail);rename_i nq;have ac:=t.low (⟨rfl,rfl,rfl,Nat.le_refl _,λ_ _=>rfl⟩:BW W0.heap.size W0 (W0.drewN nq));have aF:=av _ (ac.tab.get d.out).1;replace⟨ac,aF⟩:=H2 ac aF;go_wp2_with fail;refine(ks _).mono ?_;rintro e w1 ⟨rfl,rfl⟩;go_wp2_with fail;refine aF.mono ?_;rintro e w2 ⟨rfl,af,ao⟩;have al:=(ac.tab.get d.out).2
 have c:Cj w T _ (T.js.set k (i,b.bm l)) w2:=
  ac.dq d.out (Pv ao) af (Vd (x:=b) (ac.tab.get d.out).1 al.parts ao) (Yq _ _)
 have aK:=Bk af 14 (G O l.st) rfl;have r:(T.js.set k (i,b.bm l))[k]?=Z (i,b.bm l):=by have:=(Aq.1 d.out).1;simp[this]
 have aE:=Yn af;clear aI cj e0 e5;replace⟨al,af,ao,c,aE,r⟩:=H6 al af ao c aE r;go_wp2_with fail;refine(kl _).mono ?_;rintro e w3 ⟨rfl,rfl⟩
 cases q with
 | true=>
  clear aK;have hX:(T.js.set k (i,b.bm l)).map (λj=>j.2.pl)=X1:=by rw[Nv T.js d.out (f:=Lq s) (by rw[p.out,Ad rfl]),o.out];rfl
  have u:CS prog 130 #[Q (Z ⟨tb,0,I⟩)] w3 (Kq w3 { T with js:=T.js.set k (i,b.bm l) } (Dp X1)):=by
   have:=Yt (T:={ T with js:=T.js.set k (i,b.bm l) }) c.tab.at_ (by
    show Ed ((T.js.set k (i,b.bm l)).map λj=>j.2.pl)
    rw[hX];exact am.out)
   rw[show({ T with js:=T.js.set k (i,b.bm l) }:Tv).pl.ab=X1 from hX]at this;rw[ht.out];exact this
  replace⟨hX,u⟩:=H2 hX u;go_wp2_with fail;refine u.mono ?_;rintro e w4 ⟨rfl,aH,z,y⟩
  have a:=c.then z
  have d5:=Bk a.box 5 (G O ((k:Int)+1)) rfl;obtain⟨r0,r1,r2⟩:=C3 a.res;(try dsimp only at r0 r1 r2);have fr:=Af a.res;replace⟨z,y,a⟩:=H3 z y a;go_wp2;refine Ak (v:=F9 ⟨0,0,(k:Int)+1,(k:Int)+1⟩) (by simp[results,results86,go_sem,r0,r1,r2]) rfl ⟨rfl,aH,?_,y.out⟩;exact a.rz h.out _ _ _
 | false=>
  clear aK;go_wp2_with fail;refine aE.mono ?_;rintro e w5 ⟨rfl,aD,ap⟩
  have aB:Cj w T _ ((T.js.set k (i,b.bm l)).set k (i,(b.bm l).bare)) w5:=
   c.dq r.out (Pv ap) aD (Vd (x:=b.bm l) (c.tab.get r.out).1 (c.tab.get r.out).2.parts ap) (Yr _)
  have aA:(T.js.set k (i,b.bm l)).set k (i,(b.bm l).bare)=T.js.set k (i,(b.bm l).bare):=as9
  rw[aA]at aB;clear c;have c:=Hh aB;clear aB;replace⟨aD,ap,aA⟩:=H3 aD ap aA;have hX:(T.js.set k (i,(b.bm l).bare)).map (λj=>j.2.pl)=X1:=by rw[Nv T.js d.out (f:=Lq s) (by rw[p.out,Ac as9]),o.out];rfl
  have u:CS prog 130 #[Q (Z ⟨tb,0,I⟩)] w5 (Kq w5 { T with js:=T.js.set k (i,(b.bm l).bare) } (Dp X1)):=by
   have:=Yt (T:={ T with js:=T.js.set k (i,(b.bm l).bare) }) c.tab.at_ (by
    show Ed ((T.js.set k (i,(b.bm l).bare)).map λj=>j.2.pl)
    rw[hX];exact am.out)
   rw[show({ T with js:=T.js.set k (i,(b.bm l).bare) }:Tv).pl.ab=X1 from hX]at this;rw[ht.out];exact this
  replace⟨hX,u⟩:=H2 hX u;go_wp2_with fail;refine u.mono ?_;rintro e w4 ⟨rfl,aH,z,y⟩
  have a:=c.then z
  have d5:=Bk a.box 5 (G O ((k:Int)+1)) rfl;obtain⟨r0,r1,r2⟩:=C3 a.res;(try dsimp only at r0 r1 r2);have fr:=Af a.res;replace⟨z,y,a⟩:=H3 z y a;go_wp2;refine Ak (v:=F9 ⟨0,0,(k:Int)+1,(k:Int)+1⟩) (by simp[results,results86,go_sem,r0,r1,r2]) rfl ⟨rfl,aH,?_,y.out⟩;exact a.rz h.out _ _ _
def Ayn (e:dh) (j:Jb):(Lr e j).sp=j.sp:=by
 unfold Lr
 split<;>rfl
def Ayo (x:ar) (k:Nat) (h:Int):Ic x (x.cu (Fw x.pl k h)):=⟨rfl,rfl,rfl,rfl,rfl,rfl,.inl ⟨rfl,rfl,rfl,rfl⟩,λ_ h=>h⟩
def Ayp {x:ar} {w:WD} (b:Bv w x) {a n:Int} {i:Nat} (h:Gt x.pl a n=Z i):i<x.pn:=by
 have c:=Ji b;unfold Gt at h;split at h
 .have:=Aaa.1 h;obtain⟨h1,_⟩:=this;omega
 .cases h
structure OvC (w:WD) (T:Tv) (x:de) (js:List (Nat×ar)) (wr:WD):Prop where
 tab:Cj w T x js wr
def Ayq {w:WD} {T:Tv} (x:de) (h:An w T) (ha:Ed T.pl.ab) (k:Nat) (j:Nat×ar) (b:T.js[k]?=Z j) (hj:x.n.bt=(k:Int)+1) (i:Nat) (s:Gt j.2.pl x.n.attempt x.n.node=Z i) :
  CS prog 84 #[Q (Z ⟨T.tb,0,I⟩),x.val] w (Ado w T (Ia (Et T.pl.ab x.n.bt (Lr x.n))) ⟨0,0,0,0⟩):=by
 have a:=Cj.new h x;obtain⟨W0,af⟩:=Ex ((w.alloc (V x.cells 40 (0,0))).alloc (V #[G O 0,G O 0,G O 0] 35 (0,0)));rw[<-af]at a;have hk:=(Aq.1 b).1;obtain⟨g,cap,c4,cj,aD,_⟩:=a.tab.at_.lh b;have aA:W0.cell? ⟨T.tb,4,I⟩=Z (J (Z ⟨g,0,I⟩) T.js.length cap):=c4;have aB:T.js.length<=9223372036854775807:=by obtain⟨_,_,_,_,hm,_⟩:=h.ny;exact hm
 obtain⟨jb,l⟩:=j;have q:=(a.tab.get b).2;have ac:=Ayp q.parts s;obtain⟨pb,p,ad,_,_,_⟩:=Pw q.parts ac;obtain⟨tb,ht⟩:=Ex (T.tb);obtain⟨m,hm⟩:=Ex (T.js.length);obtain⟨X1,u⟩:=Ex (Et T.pl.ab x.n.bt (Lr x.n));have o:X1=T.pl.ab.modify k (Lr x.n):=by rw[u,hj];unfold Et;rw[show((k:Int)+1-1).toNat=k by omega]
 have al:Ed X1:=by rw[o];exact Ra ha (Alj _ _ _ (Ayn x.n))
 have am:Lr x.n l.pl=Fw l.pl i x.n.br:=by unfold Lr;rw[s]
 have d:∀W,BW W0.heap.size W0 W->CS prog 102 #[Q (Z ⟨jb,0,I⟩),G O x.n.attempt,G O x.n.node] W λe w'=>e=K (Q (Z ⟨pb,i*2,I⟩))/\w'=W:=λW hb=>by
  obtain⟨q1,q2⟩:=(a.tab.low hb).get b;refine(Aid q1 q2.parts x.n.attempt x.n.node).mono λe w' ⟨y,hp⟩=>⟨?_,y⟩;rcases hp with⟨c,_⟩|⟨k',aI,c1,c2,_,c4⟩
  .rw [s]at c;cases c
  .rw [s]at c1;injection c1 with c1;rw[ad]at c2;injection c2 with c2;injection c2 with c2;rw[c4,<-c1,<-c2]
 have r:∀W,BW W0.heap.size W0 W->CS prog 140 #[Q (Z ⟨jb,0,I⟩),Q (Z ⟨pb,i*2,I⟩),G O x.n.br] W λe w'=>e=K (.tuple #[])/\OvC w T x (T.js.set k (jb,l.cu (Fw l.pl i x.n.br))) w':=λW hb=>by
  have hE:=a.low hb;obtain⟨q1,q2⟩:=hE.tab.get b;exact(Yv q1 q2.parts i ac pb ad x.n.br).mono λe w' ⟨he,b1,b2,b3⟩=>⟨he,⟨hE.dq b b3 b1 b2 (Ayo l i x.n.br)⟩⟩
 rw[<-u,<-ht];rw[<-ht,<-hm]at aA;obtain⟨⟨kd,ep,tk,cl,sq,jn,an,nn,y⟩,so,sn,sc,di⟩:=x;simp only at hj u d r;subst hj;have e5:=Bk a.box 5 (G O ((k:Int)+1)) rfl;have e6:=Bk a.box 6 (G O an) rfl;have e7:=Bk a.box 7 (G O nn) rfl;have e8:=Bk a.box 8 (G O y) rfl;have aH:(k:Int)<m:=ao9
 have aG:(0:Int)<=(k:Int):=ao9
 rw[hm.symm]at aB;replace⟨h,ha,a,b,ht,hm,u,o⟩:=H8 h ha a b ht hm u o;replace⟨al,am,d,r,q,ac,ad,s⟩:=H8 al am d r q ac ad s;clear c4 aD hk;go_enter func84,ntmps84;go_wp2_with fail;rw[<-af];clear af;go_quiet (fail);rename_i nq;go_upto_region 2 with fail;go_cut [] (λwx=>OvC w T ⟨⟨kd,ep,tk,cl,sq,(k:Int)+1,an,nn,y⟩,so,sn,sc,di⟩ (T.js.set k (jb,l.cu (Fw l.pl i y))) wx)
 case first=>
  go_region_with (first
   | (go_at_call 102;((with_reducible refine(d.out _ (Ba _ _ _)).mono ?_);rintro e w1 ⟨rfl,aE⟩;rw[aE]))
   | (go_at_call 140;((with_reducible refine(r.out _ (Ba _ _ _)).mono ?_);rintro e w1 ⟨rfl,aC⟩)))
  all_goals
   go_wp2_with fail;go_meet;exact aC
 case rest=>
  obtain⟨z⟩:=hcut;have hX:(T.js.set k (jb,l.cu (Fw l.pl i y))).map (λj=>j.2.pl)=X1:=by rw[Nv T.js b.out (f:=Lr ⟨kd,ep,tk,cl,sq,(k:Int)+1,an,nn,y⟩) (by rw[am.out];rfl),o.out];rfl
  have ap:CS prog 134 #[Q (Z ⟨tb,0,I⟩)] wc (Kq wc { T with js:=T.js.set k (jb,l.cu (Fw l.pl i y)) } (Ia X1)):=by
   have:=Ace (T:={ T with js:=T.js.set k (jb,l.cu (Fw l.pl i y)) }) z.tab.at_ (by
    show Ed ((T.js.set k (jb,l.cu (Fw l.pl i y))).map λj=>j.2.pl)
    rw[hX];exact al.out)
   rw[show({ T with js:=T.js.set k (jb,l.cu (Fw l.pl i y)) }:Tv).pl.ab=X1 from hX]at this;rw[ht.out];exact this
  clear aA cj e5 e6 e7 e8;replace⟨hX,ap,z⟩:=H3 hX ap z;go_wp2_with fail;refine ap.mono ?_;rintro e w4 ⟨rfl,aF,av,ao⟩
  have t:=z.then av
  obtain⟨r0,r1,r2⟩:=C3 t.res;(try dsimp only at r0 r1 r2);have fr:=Af t.res;replace⟨av,ao,t⟩:=H3 av ao t;go_wp2;refine Ak (v:=F9 ⟨0,0,0,0⟩) (by simp[results,results84,go_sem,r0,r1,r2]) rfl ⟨rfl,aF,?_,ao.out⟩;exact t.rz h.out _ _ _
def Ii (w:WD) (js js':List (Nat×ar)):Prop:=∀j,j∈js'->(0<j.2.sn->∀k o,j.2.so=Z ⟨k,o,I⟩->k<w.heap.size->∃i,i∈js/\0<i.2.sn/\i.2.so=Z ⟨k,o,I⟩)/\(0<j.2.gn->∀k o,j.2.go=Z ⟨k,o,I⟩->k<w.heap.size->∃i,i∈js/\0<i.2.gn/\i.2.go=Z ⟨k,o,I⟩)
def Ii.refl (w:WD) (js:List (Nat×ar)):Ii w js js:=λj a=>⟨λh _ _ e _=>⟨j,a,h,e⟩,λh _ _ e _=>⟨j,a,h,e⟩⟩
def Bw.stays {w w1 wr:WD} {T:Tv} {js:List (Nat×ar)} (h:Bw w1 T js wr):Ii w T.js js:=λj g=>by
 obtain⟨i,d⟩:=Dn g;have b:i<T.js.length:=by rw[<-h.len];exact(Aq.1 d).1
 have k:=A4 b;have a:=h.kp i _ j k d;refine⟨λh0 _ _ e _=>⟨_,K4 b,by rw[<-a.sn];exact h0,by rw[<-a.so];exact e⟩,λh0 _ _ e _=>?_⟩;rcases a.ak with⟨f,c,_⟩|⟨_,c,_⟩
 .exact ⟨_,K4 b,by rw[<-c];exact h0,by rw[<-f];exact e⟩
 .omega
def Ii.trans {w w1:WD} {a b c:List (Nat×ar)} (h:Ii w a b) (k:Ii w1 b c) (r:w.heap.size<=w1.heap.size):Ii w a c:=λj m=>by
 obtain⟨n,p⟩:=k j m;refine⟨λh0 q o e l=>?_,λh0 q o e l=>?_⟩
 .obtain ⟨i,g,d,f⟩:=n h0 q o e ao9;exact(h i g).1 d q o f l
 .obtain ⟨i,g,d,f⟩:=p h0 q o e ao9;exact(h i g).2 d q o f l
structure Ev (w:WD) (T T':Tv) (w':WD):Prop where
 at_:An w' T'
 tb:T'.tb=T.tb
 fb:T'.fb=T.fb
 fm:T'.fm=T.fm
 fl:T'.fl=T.fl
 vs:T'.vs=T.vs
 az:∀b,T'.az b->T.az b\/w.heap.size<=b
 mod:Mod T.az w w'
 dz:Ii w T.js T'.js
def Qe (w:WD) (T:Tv) (P:du) (c:Cl) (e:Ending) (w':WD):Prop:=e=K (F9 c)/\∃T',Ev w T T' w'/\T'.pl=P
def Alk {w:WD} {T:Tv} {X:List Jb} {c:Cl} {e:Ending} {w':WD} (h:Ado w T X c e w'):Qe w T (T.pl.gh X) c e w':=by
 obtain⟨b,js,a,d⟩:=h;exact⟨b,{ T with js:=js },⟨a.at_,rfl,rfl,rfl,rfl,rfl,a.az,a.mod,a.stays⟩,by rw[<-d];rfl⟩
def Ayr (j:Jb) (k:Nat) (a:Int):(Pr j k a).sp=j.sp/\(Pr j k a).ak=j.ak:=by
 unfold Pr;split
 .exact ⟨rfl,rfl⟩
 .split<;>exact⟨rfl,rfl⟩
def Ays (j:Jb) (a:Int) (n:Nat):(Jh j a n).sp=j.sp/\(Jh j a n).ak=j.ak:=by
 induction n with
 | zero=>exact⟨rfl,rfl⟩
 | succ n ih=>
  obtain⟨h1,b⟩:=Ayr (Jh j a n) n a;exact⟨h1.trans ih.1,b.trans ih.2⟩
def Adp (j:Jb) (a:Int):(Fx j a).sp=j.sp/\(Fx j a).ak=j.ak:=Ays _ _ _
def All (x:ar) (a:Int):Ic x (x.cu (Fx x.pl a)):=by
 obtain⟨h1,b⟩:=Adp x.pl a;exact⟨rfl,rfl,rfl,by show(Fx x.pl a).sp.after=_;rw[h1],by show(Fx x.pl a).sp.user=_;rw[h1],by show(Fx x.pl a).sp.part=_;rw[h1],.inl ⟨rfl,rfl,rfl,b⟩,λ_ h=>h⟩
def An.zm {w:WD} {T:Tv} (h:An w T) (h0:0<T.nodes.length):∃g cap,T.nv=J (Z ⟨g,0,I⟩) T.nodes.length cap/\w.cell? ⟨T.tb,3,I⟩=Z (J (Z ⟨g,0,I⟩) T.nodes.length cap)/\T.nodes.length<=9223372036854775807:=by
 obtain⟨g,cap,e⟩:=Joins.ownsRow_form h.nodes h0;refine⟨g,cap,e,by rw[Aa h.head 3,<-e];rfl,?_⟩;rcases h.nodes.2 with⟨_,c⟩|⟨f,a,b,c,_,_,h1,d,_⟩
 .omega
 .unfold maxLen at d;omega
def An.pw {w:WD} {T:Tv} (h:An w T) {i:Nat} {n:Er} (b:T.nodes[i]?=Z n) {g cap:Nat} (e:T.nv=J (Z ⟨g,0,I⟩) T.nodes.length cap):w.cell? ⟨g,i*3,I⟩=Z (D n.up)/\w.cell? ⟨g,i*3+1,I⟩=Z (D n.bq)/\w.cell? ⟨g,i*3+2,I⟩=Z (G O n.since)/\∀o,w.frozen? ⟨g,o,I⟩=false:=by
 have s:=(Aq.1 b).1;have c:=h.nodes;rw[e]at c;have a:∀x:Er,(Ej x).size=3:=λ_=>rfl;have f:=Fo c (i*3) ao9;have k:=Fo c (i*3+1) ao9;have l:=Fo c (i*3+2) ao9;have d:=Iw a T.nodes (j:=0) b ao9;have p:=Iw a T.nodes (j:=1) b ao9;have q:=Iw a T.nodes (j:=2) b ao9;rw[Iu]at d;obtain⟨m,r,_⟩:=C8 h.nodes (g:=g) (by rw[e];rfl);exact⟨by rw[f,d];rfl,by rw[k,p];rfl,by rw[l,q];rfl,Af r⟩
def Cj.setNode {w wr:WD} {T:Tv} {x:de} (h:Cj w T x T.js wr) {g cap:Nat} (e:T.nv=J (Z ⟨g,0,I⟩) T.nodes.length cap) (i j:Nat) (v:VL) (f:Er->Er) (q:j<3) (p:∀x:Er,(Ej x).toList.set j v=(Ej (f x)).toList) :
  Cj w { T with nodes:=T.nodes.modify i f } x T.js (wr.setCell ⟨g,i*3+j,I⟩ v):=by
 have r:=h.tab.at_.nodes;have l:wr.ownsRow 0 119 3 (J (Z ⟨g,0,I⟩) T.nodes.length cap) T.nodes.length (Av Ej T.nodes):=by have:wr.ownsRow 0 119 3 T.nv T.nodes.length (Av Ej T.nodes):=r;rw[e]at this;exact this
 have n:=Aw0 l (i*3+j) v;rw[Aw1 _ _ _ _ f q p]at n;have m:Mod (λk=>({ T with js:=T.js }:Tv).nv.ownBlock=Z k) wr (wr.setCell ⟨g,i*3+j,I⟩ v):=Mod.setCell _ _ _ _ (by show T.nv.ownBlock=Z g;rw[e];rfl)
 have o:=An.sa (T:={ T with js:=T.js }) h.tab.at_ (T.nodes.modify i f) (Kh _ _ _) m (by
  rw[Kh];show(wr.setCell ⟨g,i*3+j,I⟩ v).ownsRow 0 119 3 T.nv _ _;rw[e]
  exact n)
 have d:∀k,T.nv.ownBlock=Z k->T.az k:=λk e=>.inr (.inr (.inl e));have a:=m.mono λk _ e=>d k e;refine⟨⟨o,rfl,λb c=>.inl c,h.tab.mod.trans a,h.tab.kp⟩,a.aw h.box (h.tab.at_.off h.box ad9 ad9 ad9 ad9 ad9),a.aw h.res (h.tab.at_.off h.res ad9 ad9 ad9 ad9 ad9)⟩
def Cj.jg {w wr:WD} {T a:Tv} {x:de} {js:List (Nat×ar)} (h:Cj w a x js wr) (h0:An w T) (d:a.js=T.js) (f:a.tb=T.tb) (s t u:VL):Bw w a js (((wr.setCell ⟨w.heap.size+1,0,I⟩ s).setCell ⟨w.heap.size+1,1,I⟩ t).setCell ⟨w.heap.size+1,2,I⟩ u):=by
 have q:=(((Mod.refl (λk=>k=w.heap.size+1) wr).set _ 0 s rfl).set _ 1 t rfl).set _ 2 u rfl;refine⟨h.tab.at_.gg h.res q (by show a.tb<_;rw[f];have:=Ab h0.head;omega) ad9 ad9 ad9 ad9 ad9 ad9 λj v=>?_,h.tab.aw,h.tab.az,h.tab.mod.then q (λk c e=>by omega),h.tab.kp⟩;obtain⟨i,n⟩:=Dn v;have p:i<a.js.length:=by rw[<-h.tab.len];exact(Aq.1 n).1
 have y:=A4 p;have c:=h.tab.kp i _ j y n;have g:a.js[i]∈T.js:=by rw[<-d];exact K4 p
 have r:=h0.ok _ g;refine⟨λb k o e=>?_,λb k o e=>?_⟩
 .rw [c.sn]at b;rw[c.so]at e;have:=Lo r.after.row b e;omega
 .rcases c.ak with⟨l,m,_⟩|⟨l,m,_⟩
  .rw [m]at b;rw[l]at e;have:=Lo r.ak.row b e;omega
  .omega
def Ayt {w:WD} {T:Tv} (x:de) (h:An w T):CS prog 81 #[Q (Z ⟨T.tb,0,I⟩),x.val] w (Qe w T { T.pl with ai:=x.n.ai } ⟨0,0,0,0⟩):=by
 have a:=Cj.new h x;obtain⟨f,i⟩:=Ex ((w.alloc (V x.cells 40 (0,0))).alloc (V #[G O 0,G O 0,G O 0] 35 (0,0)));rw[<-i]at a;obtain⟨g,m⟩:=Ex (T.tb);rw[<-m];have o:f.heap[g]?=Z (V #[G O T.ai,G O T.tick,.map (Z T.mb),T.nv,T.jv,Q (Z ⟨T.fb,0,I⟩),T.cv] 115 (0,0)):=by rw[m];exact a.tab.at_.head
 have c0:=Bk o 0 (G O T.ai) rfl;have f0:=Af o;obtain⟨⟨kd,d,tk,cl,sq,jn,an,nn,hw⟩,so,sn,sc,di⟩:=x;have e1:=Bk a.box 1 (G O d) rfl;obtain⟨y,z,r2⟩:=C3 a.res;(try dsimp only at y z r2);have fr:=Af a.res;have l:g≠w.heap.size+1:=by rw[m];have:=Ab h.head;omega
 replace⟨h,a,m,o,l⟩:=H5 h a m o l;go_enter func81,ntmps81;go_upto_region 1 with fail;rw[<-i];clear i;have p:=l.out;have q:=p.symm;have u:¬(w.heap.size+1=g):=q;go_wp2;refine Ak (v:=F9 ⟨0,0,0,0⟩) (by simp[results,results81,go_sem,y,z,r2]) rfl ⟨rfl,?_⟩
 have r:Cj w { T with ai:=d } ⟨⟨kd,d,tk,cl,sq,jn,an,nn,hw⟩,so,sn,sc,di⟩ T.js (f.setCell ⟨g,0,I⟩ (G O d)):=by
  have t:Mod (λk=>k=T.tb) f (f.setCell ⟨g,0,I⟩ (G O d)):=Mod.setCell _ _ _ _ m.out
  have hA:=a.tab.at_.px (w':=f.setCell ⟨g,0,I⟩ (G O d)) d T.tick t (by
   show(f.setCell ⟨g,0,I⟩ (G O d)).heap[T.tb]?=_;rw[<-m.out,Am o.out]
   rfl)
  have j:Mod T.az f (f.setCell ⟨g,0,I⟩ (G O d)):=t.mono λk _ e=>by rw[e];exact .inl rfl
  exact⟨⟨hA,rfl,λb c=>.inl c,a.tab.mod.trans j,a.tab.kp⟩,j.aw a.box (a.tab.at_.off a.box ad9 ad9 ad9 ad9 ad9),j.aw a.res (a.tab.at_.off a.res ad9 ad9 ad9 ad9 ad9)⟩
 have s:=r.jg h.out rfl rfl (G O 0) (G O 0) (G O 0);exact⟨{ T with ai:=d },⟨s.at_,rfl,rfl,rfl,rfl,rfl,s.az,s.mod,Ii.refl _ _⟩,rfl⟩
def Ay5 {α:Type} (l:List α) (i:Nat) (f g:α->α):(l.modify i f).modify i g=l.modify i λx=>g (f x):=by
 apply Eg;intro k;rw[Fp,Fp,Fp];by_cases h:i=k
 .simp [h,Ip]
 .simp [h]
def Ay6 {w:WD} {T:Tv} (x:de) (h:An w T) (ha:Ed T.pl.ab) (i:Nat) (hi:i<T.nodes.length) (aP:x.n.node=(i:Int)) (aU:8<=x.n.kind/\x.n.kind<=11) :
  CS prog 85 #[Q (Z ⟨T.tb,0,I⟩),x.val] w (Qe w T (Px T.pl x.n) ⟨0,0,0,0⟩):=by
 have d:=Cj.new h x;obtain⟨W0,s⟩:=Ex ((w.alloc (V x.cells 40 (0,0))).alloc (V #[G O 0,G O 0,G O 0] 35 (0,0)));rw[<-s]at d;obtain⟨g,cap,ap,c3,av⟩:=An.zm (T:={ T with js:=T.js }) d.tab.at_ (by show 0<T.nodes.length;omega);have o:=ap;have aM:=c3;have aF:=av;obtain⟨nd,aH⟩:=Ge T.nodes i hi;obtain⟨n0,n1,n2,fn⟩:=An.pw (T:={ T with js:=T.js }) d.tab.at_ aH ap;obtain⟨tb,ht⟩:=Ex (T.tb);obtain⟨m,hm⟩:=Ex (T.nodes.length);obtain⟨P,hP⟩:=Ex (Px T.pl x.n);rw[<-ht,<-hP];rw[<-ht,<-hm]at aM;rw[<-hm]at aF
 have am:g≠w.heap.size+1:=λe=>by
  have:=d.tab.at_.off d.res ad9 ad9 ad9 ad9 ad9;exact this (.inr (.inr (.inl (by show T.nv.ownBlock=_;rw[o,e];rfl))))
 obtain⟨⟨kd,ep,tk,cl,sq,jn,an,nn,hw⟩,so,sn,sc,di⟩:=x;simp only at aP aU;subst aP;have e0:=Bk d.box 0 (G O kd) rfl;have e2:=Bk d.box 2 (G O tk) rfl;have e7:=Bk d.box 7 (G O (i:Int)) rfl;obtain⟨r0,r1,r2⟩:=C3 d.res;(try dsimp only at r0 r1 r2);have fr:=Af d.res;have a0:(i:Int)<m:=ao9
 have aZ:(0:Int)<=(i:Int):=ao9
 have aT:¬(g=w.heap.size+1):=am;clear c3 av am;replace⟨h,ha,d,ap,o,aH,ht,hm⟩:=H8 h ha d ap o aH ht hm;replace hP:=Hh hP;by_cases q8:kd=8
 .subst q8;obtain⟨aR,aO,ao,aY,aG,_⟩:=h.ny;obtain⟨mj,z⟩:=Ex (T.js.length);obtain⟨r,a⟩:∃r:Tv,r={ T with nodes:=T.nodes.modify i (λn=>⟨false,n.bq,n.since⟩) }:=⟨_,rfl⟩;have l:P={ r.pl with ab:=Ia (r.pl.ab.map λj=>Fx j (i:Int)) }:=by rw[hP.out,a];unfold Px;rw[Ad rfl];show _=_;simp only[Ki];rfl
  have row:∀(js:List (Nat×ar)) (W:WD),Cj w r ⟨⟨8,ep,tk,cl,sq,jn,an,(i:Int),hw⟩,so,sn,sc,di⟩ js W->∀k,k<mj->∃g j,aR=Z ⟨g,0,I⟩/\js[k]?=Z j/\W.cell? ⟨g,k,I⟩=Z (Q (Z ⟨j.1,0,I⟩)):=λjs W hW k hk=>by
   have hl:js.length=mj:=(by rw[z,hW.tab.len,a]);obtain⟨j,hj⟩:=Ge js k ao9;obtain⟨aX,aN,e1,_,_,hr⟩:=hW.tab.at_.ny;obtain⟨g,e2,hc⟩:=hr k j hj;have e3:T.jv=J aX js.length aN:=(by rw[<-e1,a]);rw[ao]at e3;injection e3 with e3 _ _;exact⟨g,j,e3.trans e2,hj,hc⟩
  have c4:W0.cell? ⟨tb,4,I⟩=Z (J aR mj aO):=by rw[ht.out,Aa d.tab.at_.head 4,z,<-ao];rfl
  rw[z.symm]at aG;have af:Ed r.pl.ab:=by rw[a];exact ha.out
  have aB:r.pl.ab.length=mj:=by rw[z,a];simp[Tv.pl]
  replace⟨ao,z,l,row,af,aB⟩:=H6 ao z l row af aB;go_enter Xs,Xr;go_wp2_with fail;rw[<-s];clear s;go_quiet (fail);rename_i nq;have q:Cj w r ⟨⟨8,ep,tk,cl,sq,jn,an,(i:Int),hw⟩,so,sn,sc,di⟩ r.js ((W0.drewN nq).setCell ⟨g,i*3,I⟩ (D false)):=by rw[a];exact(d.low (Ba _ W0 nq)).setNode o.out i 0 (D false) (λn=>⟨false,n.bq,n.since⟩) ao9 (λ_=>rfl)
  replace⟨q,a⟩:=H2 q a;go_wp2;generalize (W0.drewN nq).setCell ⟨g,i*3,I⟩ (D false)=W2 at q ⊢;clear c4 aM n0 n1 n2 fn e0 e2 e7 r0 r1 r2 fr aT;go_loopw [7,35] (λ_ i2 wr=>∃(k:Nat) (js:List (Nat×ar)),i2=G O k/\k<=mj/\Hid (Cj w r ⟨⟨8,ep,tk,cl,sq,jn,an,(i:Int),hw⟩,so,sn,sc,di⟩ js wr)/\Hid (js.map (λj=>j.2.pl)=Ee (λj=>Fx j (i:Int)) r.pl.ab k)) (λ_ i2 _=>mj-(intOf i2).toNat)
  case atStart=>exact⟨0,r.js,rfl,As _,q.out,rfl⟩
  case round=>
   obtain⟨k,js,rfl,hk,hE,hX⟩:=hrel;by_cases hc:k<mj
   .have aS:(k:Int)<mj:=ao9;have a1:(0:Int)<=(k:Int):=ao9;obtain⟨g2,j,rfl,hj,cr⟩:=row _ _ hE.out k hc;obtain⟨jb,jx⟩:=j;obtain⟨aC,aI⟩:=hE.tab.get hj;have e7:=Bk hE.box 7 (G O (i:Int)) rfl;have aD:=Ah6 aC aI.parts (i:Int);replace⟨hj,aC,aI,aD⟩:=H4 hj aC aI aD;go_wp2_with fail;refine aD.mono ?_;rintro e w3 ⟨rfl,hG⟩;have ac:=hE.dq hj.out hG.mod hG.box hG.parts (All jx (i:Int));have aA:(js.set k (jb,jx.cu (Fx jx.pl (i:Int)))).map (λj=>j.2.pl)=Ee (λj=>Fx j (i:Int)) r.pl.ab (k+1):=(by rw[Nv js hj.out (f:=λj=>Fx j (i:Int)) rfl,hX.out];rfl);clear hG;replace⟨ac,aA⟩:=H2 ac aA;go_wp2;go_roundw
    case rel=>exact⟨k+1,_,by go_num,ao9,ac.out,aA.out⟩
    case measure=>simp[intOf];omega
   .have aS:¬(k:Int)<mj:=ao9;have aE:k=mj:=ao9;have y:=hX.out;rw[aE,<-aB.out,Tc]at y;obtain⟨X2,t⟩:=Ex (r.pl.ab.map λj=>Fx j (i:Int));rw[<-t]at y;have al:Ed X2:=by rw[t,<-Tc];exact Ra af.out (Yw _ (λj=>(Adp j _).1) _ _)
    have aK:CS prog 134 #[Q (Z ⟨tb,0,I⟩)] wr (Kq wr { r with js:=js } (Ia X2)):=by
     have:=Ace (T:={ r with js:=js }) hE.tab.at_ (by
      show Ed (js.map λj=>j.2.pl)
      rw[y];exact al)
     rw[show({ r with js:=js }:Tv).pl.ab=X2 from y]at this;rw[show tb=({ r with js:=js }:Tv).tb from by rw[ht.out,a.out]];exact this
    replace⟨y,t,al,aK,aE⟩:=H5 y t al aK aE;go_wp2_with fail;refine aK.mono ?_;rintro e w4 ⟨rfl,aV,aL,aJ⟩
    have ad:=hE.then aL
    obtain⟨r0,r1,r2⟩:=C3 ad.res;(try dsimp only at r0 r1 r2);have fr:=Af ad.res;replace⟨aL,aJ,ad⟩:=H3 aL aJ ad;go_wp2;refine Ak (v:=F9 ⟨0,0,0,0⟩) (by simp[results,results85,go_sem,r0,r1,r2]) rfl ⟨rfl,?_⟩;have u:=ad.jg h.out (by rw[a.out]) (by rw[a.out]) (G O 0) (G O 0) (G O 0);refine⟨{ r with js:=aV },⟨u.at_,by rw[a.out],by rw[a.out],by rw[a.out],by rw[a.out],by rw[a.out],?_,?_,?_⟩,?_⟩
    .intro b c;have:=u.az b c;rw[a.out]at this;exact this
    .have:=u.mod;rw[a.out]at this;exact this
    .have:=u.stays (w:=w);rw[a.out]at this;exact this
    .rw [l.out,<-t.out,<-aJ.out];rfl
 .by_cases q9:kd=9
  .subst q9;have l:P={ T.pl with nodes:=T.pl.nodes.modify (i:Int).toNat (λn=>⟨true,n.bq,tk⟩) }:=(by rw[hP.out];rfl);replace⟨l,q8⟩:=H2 l q8;go_enter Xs,Xr;go_wp2_with fail;rw[<-s];clear s;go_quiet (fail);rename_i nq;have p:=d.low (Ba _ W0 nq);replace p:=Hh p;go_wp2_with fail;go_region_with (fail)
   all_goals
    go_wp2;refine Ak (v:=F9 ⟨0,0,0,0⟩) (by simp[results,results85,go_sem,r0,r1,r2]) rfl ⟨rfl,?_⟩;have q:=(d.low (Ba _ W0 (nq+1))).setNode o.out i 0 (D true) (λn=>⟨true,n.bq,n.since⟩) ao9 (λ_=>rfl);have ac:=Cj.setNode (T:={ T with nodes:=T.nodes.modify i (λn=>⟨true,n.bq,n.since⟩) }) q (by show T.nv=_;rw[Kh];exact o.out) i 2 (G O tk) (λn=>⟨n.up,n.bq,tk⟩) ao9 (λ_=>rfl);have u:=ac.jg h.out rfl rfl (G O 0) (G O 0) (G O 0);exact⟨{ T with nodes:=(T.nodes.modify i (λn=>⟨true,n.bq,n.since⟩)).modify i (λn=>⟨n.up,n.bq,tk⟩) },⟨u.at_,rfl,rfl,rfl,rfl,rfl,u.az,u.mod,Ii.refl _ _⟩,by rw[l.out,Ki,Ay5];rfl⟩
  .by_cases aQ:kd=10
   .subst aQ;have l:P={ T.pl with nodes:=T.pl.nodes.modify (i:Int).toNat (λn=>⟨n.up,true,n.since⟩) }:=(by rw[hP.out];rfl);replace⟨l,q8,q9⟩:=H3 l q8 q9;go_enter Xs,Xr;go_wp2_with fail;rw[<-s];clear s;go_quiet (fail);rename_i nq;have p:=d.low (Ba _ W0 nq);replace p:=Hh p;go_wp2;refine Ak (v:=F9 ⟨0,0,0,0⟩) (by simp[results,results85,go_sem,r0,r1,r2]) rfl ⟨rfl,?_⟩;have q:=p.setNode o.out i 1 (D true) (λn=>⟨n.up,true,n.since⟩) ao9 (λ_=>rfl);have u:=q.jg h.out rfl rfl (G O 0) (G O 0) (G O 0);exact⟨{ T with nodes:=T.nodes.modify i (λn=>⟨n.up,true,n.since⟩) },⟨u.at_,rfl,rfl,rfl,rfl,rfl,u.az,u.mod,Ii.refl _ _⟩,by rw[l.out,Ki];rfl⟩
   .have aW:kd=11:=ao9;clear aQ;subst aW;have l:P={ T.pl with nodes:=T.pl.nodes.modify (i:Int).toNat (λn=>⟨n.up,false,n.since⟩) }:=(by rw[hP.out];rfl);replace⟨l,q8,q9⟩:=H3 l q8 q9;go_enter Xs,Xr;go_wp2_with fail;rw[<-s];clear s;go_quiet (fail);rename_i nq;have p:=d.low (Ba _ W0 nq);replace p:=Hh p;go_wp2;refine Ak (v:=F9 ⟨0,0,0,0⟩) (by simp[results,results85,go_sem,r0,r1,r2]) rfl ⟨rfl,?_⟩;have q:=p.setNode o.out i 1 (D false) (λn=>⟨n.up,false,n.since⟩) ao9 (λ_=>rfl);have u:=q.jg h.out rfl rfl (G O 0) (G O 0) (G O 0);exact⟨{ T with nodes:=T.nodes.modify i (λn=>⟨n.up,false,n.since⟩) },⟨u.at_,rfl,rfl,rfl,rfl,rfl,u.az,u.mod,Ii.refl _ _⟩,by rw[l.out,Ki];rfl⟩
def Ay7 (w:WD):(zeroValue 123).run prog w=.ok (Gu Cl.zero) w:=by kernel_rfl
def wfI {n:Int} (h1:-9223372036854775808<=n) (a:n<=9223372036854775807):(Lit.int O n).wf=true:=by
 simp[Lit.wf,IntKind.min,IntKind.max,IntKind.signed,IntKind.bits];omega
def Zo {w:WD} {d:Nat} {l:List (Int×Cl)} (h:Li w d l) {a:Int} (h1:-9223372036854775808<=a) (f:a<=9223372036854775807):(Instr.lookup 108 (.map (Z d)) (G O a) false).run prog w=.ok (Gu (E0 l a)) w:=by
 obtain⟨v,g,b,c⟩:=World.ownsMap.lookup h (int_keyed D5) Aae (Ay7 w) (Ag0 Cl.zero) (keyOf_int_mk D5 (wfI h1 f))
 have:v=Gu (E0 l a):=by have e:=Aqw l a;unfold F0 at e;rw[e]at c;exact Aqt c
 rw[b,this]
def Alt:(prog.info? 65).map (λi=>(i.zero,i.size,i.bytes))=Z (Z (.agg #[G O 0,G O 0]),2,16):=by kernel_rfl
def Zq (w:WD) (x:ar) (e:Ending) (w':WD):Prop:=∃po pc,e=K (J po x.pn pc)/\w'.ownsRow w.heap.size 65 2 (J po x.pn pc) x.pn (Av Fz x.pl.parts)/\BW w.heap.size w w'
def Azb {w:WD} {x:ar} (h:Bv w x) (hn:x.pn<=1000000):CS prog 88 #[J x.po x.pn x.pc] w (Zq w x):=by
 obtain⟨i0,hi,y,z,ac⟩:=B4 Alt;have q:=Ji h;have mx:maxLen=9223372036854775807:=by kernel_rfl
 have qN:∀(w:WD) (a:Option Addr) (n c n' c':Nat),(binOp .eql 44 (J a n c) (J I n' c')).run prog w=.ok (D a.isNone) w:=λw a n c n' c'=>Lib.run_eql_slice_nil w _ _ a n c n' c' Aau;obtain⟨n,m⟩:=Ex (x.pn);rcases h.2 with⟨e,h0⟩|⟨g,cap,aA,e,_,hg,ao,am,an,ap⟩
 .simp at e;obtain⟨e1,e2,e3⟩:=e;have t:x.pl.parts=[]:=List.eq_nil_of_length_eq_zero ao9;rw[e1,e2,e3];have d:Zq w x (K (J I 0 0)) w:=⟨I,0,by rw[e2],by rw[e2,t];exact Nb _ _ _ _,Below.refl _ _⟩;clear hi y z ac m;replace⟨d,h,e1,e2,e3,t,q,h0⟩:=H8 d h e1 e2 e3 t q h0;replace hn:=Hh hn;go_enter func88,ntmps88;go_wp2;go_ret;exact d.out
 .simp at e;obtain⟨e1,e3⟩:=e;have v:BW w.heap.size w (w.alloc (V #[] 65)):=Bn;have o:(w.alloc (V #[] 65)).ownsRow w.heap.size 65 2 (J (Z ⟨w.heap.size,0,I⟩) 0 0) 0 []:=⟨rfl,.inr ⟨w.heap.size,0,#[],rfl,Nat.le_refl _,Ah _ _,Nat.le_refl _,ao9,rfl,rfl⟩⟩
  have ad:=λj u hu=>by
   have h2:(w.alloc (V #[] 65)).ownsRow 0 65 2 (J x.po x.pn x.pc) x.pn (Av Fz x.pl.parts):=Bv.low h v;exact World.ownsRow.cells h2 (g:=g) (by rw[e1];rfl) j u hu
  have af:(Av Fz x.pl.parts).length=n*2:=by rw[Asl,q,m]
  have s:∀u∈Av Fz x.pl.parts,u.oneCell'=true:=λu hu=>by
   unfold Av at hu;obtain⟨p,_,t⟩:=List.mem_flatMap.1 hu;simp at t
   rcases t with rfl|rfl<;>rfl
  have d:∀po pc W,W.ownsRow w.heap.size 65 2 (J po n pc) n (Av Fz x.pl.parts)->BW w.heap.size w W->Zq w x (K (J po n pc)) W:=λpo pc W a b=>⟨po,pc,by rw[m],by rw[m]at a;exact a,b⟩;rw[e1,<-m];obtain⟨pc,al⟩:=Ex (x.pc);rw[<-al];have aB:n<=1000000:=ao9
  replace⟨d,h,e1,e3,q,hn,hi,y⟩:=H8 d h e1 e3 q hn hi y;replace⟨z,ac,v,o,ad,af,s,m⟩:=H8 z ac v o ad af s m;replace⟨hg,ao,am,an,ap,al⟩:=H6 hg ao am an ap al;go_enter func88,ntmps88;go_wp2_with (at_builtin;refine I7 _ rfl _ _ 44 rfl w.heap.size 65 i0 (.agg #[G O 0,G O 0]) 2 16 Aau hi.out y.out z.out ac.out rfl ad9 _ _ _ rfl o.out ⟨g,0,I⟩ n pc (Av Fz x.pl.parts) rfl af.out ad.out s.out ?c3 ?c4 ?c5 ?c6)
  case c3=>omega
  case c4=>omega
  case c5=>simp
  case c6=>
   intro v' w2 f i r;have l:=v.grown i as9 (λk hk=>(o.lt k hk).1);rcases Joins.ownsRow_forms f with⟨rfl,h0⟩|⟨g2,av,rfl⟩
   .exact absurd rfl r
   .have t:=d _ _ w2 f l;replace⟨f,i,l,t,r⟩:=H5 f i l t r;go_wp2;go_ret;exact t.out
structure M8 (w0 w':WD) (x y:ar):Prop where
 pl:y.pl=x.pl
 sn:y.sn=x.sn
 gn:y.gn=x.gn
 pn:y.pn=x.pn
 after:Ap w' y.so y.sn x.pl.sp.after
 pz:y.sn<=y.sc
 vm:∀b o,y.so=Z ⟨b,o,I⟩->w0.heap.size<=b
 yq:∀b o,y.so=Z ⟨b,o,I⟩->∃cc,w'.heap[b]?=Z (V cc 3 (0,0))
 ak:Ap w' y.go y.gn x.pl.ak
 oh:y.gn<=y.gc
 vq:∀b o,y.go=Z ⟨b,o,I⟩->w0.heap.size<=b
 yy:∀b o,y.go=Z ⟨b,o,I⟩->∃cc,w'.heap[b]?=Z (V cc 3 (0,0))
 parts:w'.ownsRow w0.heap.size 65 2 (J y.po y.pn y.pc) y.pn (Av Fz x.pl.parts)
def Alu (w:WD) (x:ar) (e:Ending) (w':WD):Prop:=∃y,e=K y.val/\M8 w w' x y/\BW w.heap.size w w'
structure L2 (w:WD) (y:ar) (W:WD):Prop where
 low:BW w.heap.size w W
 res:W.heap[w.heap.size]?=Z (V ar.zero.cells 46 (0,0))
 cp:W.heap[w.heap.size+1]?=Z (V y.cells 46 (0,0))
def L2.next {w W b:WD} {y:ar} (h:L2 w y W) (a:BW W.heap.size W b):L2 w y b:=
 ⟨h.low.trans (a.mono h.low.size),Ae a h.res (Ab h.res),Ae a h.cp (Ab h.cp)⟩
def L2.set {w W:WD} {y z:ar} (h:L2 w y W) (o:Nat) (v:VL) (e:y.cells.setIfInBounds o v=z.cells):L2 w z (W.setCell ⟨w.heap.size+1,o,I⟩ v):=
 ⟨⟨h.low.os,h.low.tape,h.low.output,by have:=h.low.size;simpa[World.setCell]using this,λk a=>(Cm _ _ _ _ (λe=>by simp at e;omega)).trans (h.low.block k a)⟩,(Cm _ _ _ _ (λe=>by simp at e)).trans h.res,by rw[<-e];exact Am h.cp _ _⟩
def Kz:(prog.info? 46).map (·.size)=Z 22:=by kernel_rfl
def Rt {B:Nat} {a w:WD} (h:BW B a w) {g:Nat} (d:B<=g) (c:Array VL):BW B a (w.setRow g c):=
 ⟨h.os,h.tape,h.output,by have:=h.size;simpa[World.setRow]using this,λk b=>(Uo w g k c ao9).trans (h.block k b)⟩
def L2.new (w:WD) (x:ar):L2 w x (((w.alloc (V Jz 46)).alloc (V Jz 46)).setRow (w.heap.size+1) x.cells):=
 ⟨Rt (Bn.alloc as9 _) ao9 _,(Uo _ _ _ _ ao9).trans (Aj _ (Ah _ _)),Nj _ _ _ _ _ _ (A5 _ _ as9)⟩
def Alv {S:Nat->Prop} {w:WD} {g:Nat} (c:Array VL) (_:w=w) (h:S g):Mod S w (w.setRow g c):=⟨rfl,rfl,rfl,by simp[World.setRow],λk _ a=>Uo w g k c (λe=>a (e▸h))⟩
def T5 (a k:Nat):Prop:=k=a\/k=a+1
def Zr {w:WD} {B B' size n:Nat} {T:TypeId} {v:VL} {xs:List VL} (h:w.ownsRow B T size v n xs) (a:B'<=B):w.ownsRow B' T size v n xs:=
 ⟨h.1,h.2.imp id λ⟨g,cap,cur,e,hg,r⟩=>⟨g,cap,cur,e,Ay a hg,r⟩⟩
def Ru (x:ar):x.cells.all (·.oneCell')=true:=by simp[ar.cells,Value.oneCell']
def Azc {w:WD} {b:Nat} {x:ar} {S:Nat->Prop} (a:Bc w b x) (q:Np w S x) (h1:x.sn<=1000) (h2:x.gn<=1000) (h3:x.pn<=1000000) :
  CS prog 47 #[Q (Z ⟨b,0,I⟩)] w (Alu w x):=by
 have an:=Ab a;have g:=L2.new w x;obtain⟨W1,r⟩:=Ex (((w.alloc (V Jz 46)).alloc (V Jz 46)).setRow (w.heap.size+1) x.cells);rw[<-r]at g;have ap:w.heap.size+2=W1.heap.size:=by rw[r];simp[World.setRow]
 have z:(w.alloc (V Jz 46)).heap[b]?=Z (V x.cells 46 (0,0)):=Aj _ a;have ad:((w.alloc (V Jz 46)).alloc (V Jz 46)).heap[w.heap.size+1]?=Z (V Jz 46 (0,0)):=A5 _ _ as9;have x1:=Bk (Ae g.low a an) 13 (J x.so x.sn x.sc) rfl;have af:∀W,BW w.heap.size w W->CS prog 87 #[J x.so x.sn x.sc] W (Va x.sn x.pl.sp.after W):=λW hW=>Zp _ _ _ _ _ (q.after.row.low hW) h1;have al:∀W,BW w.heap.size w W->CS prog 87 #[J x.go x.gn x.gc] W (Va x.gn x.pl.ak W):=λW hW=>Zp _ _ _ _ _ (q.ak.row.low hW) h2;have am:∀W,BW w.heap.size w W->CS prog 88 #[J x.po x.pn x.pc] W (Zq W x):=λW hW=>Azb (Bv.low q.parts hW) h3;have k1:=af _ g.low;replace⟨a,q,h1,h2,h3,g,af,al⟩:=H8 a q h1 h2 h3 g af al;replace⟨am,k1,z,ad,ap⟩:=H5 am k1 z ad ap;go_enter func47,ntmps47;go_upto_region 2 with(first|(refine Xc rfl 46 _ rfl b rfl 46 x.cells (0,0) _ (by first|exact z.out|exact a.out) R7 rfl Kz ?_)|(refine Od rfl 46 _ _ rfl (w.heap.size+1) x.cells rfl rfl 46 _ ad.out Kz rfl (Ru x) ?_));rw[<-r];clear r z ad;go_wp2_with fail;refine k1.mono ?_;rintro e w2 ⟨s1,c1,rfl,q1,i1,f1,b1⟩;have j:=g.next b1;have aE:=Bk j.cp 13 (J x.so x.sn x.sc) rfl;have aB:=Af j.cp;have h:L2 w { x with so:=s1,sc:=c1 } (w2.setCell ⟨w.heap.size+1,13,I⟩ (J s1 x.sn c1)):=j.set 13 _ rfl;obtain⟨W3,s⟩:=Ex (w2.setCell ⟨w.heap.size+1,13,I⟩ (J s1 x.sn c1));rw[<-s]at h;have x2:=Bk (Ae h.low a.out an) 20 (J x.go x.gn x.gc) rfl;have k2:=al _ h.low;replace⟨q1,i1,f1,b1,j,h,k2⟩:=H7 q1 i1 f1 b1 j h k2;clear x1;go_upto_region 3 with fail;rw[<-s];have av:=Hh s;clear s aE aB;go_wp2_with fail;refine k2.mono ?_;rintro e w4 ⟨s2,c2,rfl,q2,i2,f2,b2⟩;have l:=h.next b2;have aF:=Bk l.cp 20 (J x.go x.gn x.gc) rfl;have aC:=Af l.cp;have i:L2 w { x with so:=s1,sc:=c1,go:=s2,gc:=c2 } (w4.setCell ⟨w.heap.size+1,20,I⟩ (J s2 x.gn c2)):=l.set 20 _ rfl;obtain⟨W5,t⟩:=Ex (w4.setCell ⟨w.heap.size+1,20,I⟩ (J s2 x.gn c2));rw[<-t]at i;have x3:=Bk (Ae i.low a.out an) 21 (J x.po x.pn x.pc) rfl;have k3:=am _ i.low;replace⟨q2,i2,f2,b2,l,i,k3⟩:=H7 q2 i2 f2 b2 l i k3;clear x2;go_upto_region 4 with fail;rw[<-t];have aA:=Hh t;clear t aF aC;go_wp2_with fail;refine k3.mono ?_;rintro e w6 ⟨s3,c3,rfl,o3,b3⟩;have m:=i.next b3;have aG:=Bk m.cp 21 (J x.po x.pn x.pc) rfl;have aD:=Af m.cp;have d:L2 w { x with so:=s1,sc:=c1,go:=s2,gc:=c2,po:=s3,pc:=c3 } (w6.setCell ⟨w.heap.size+1,21,I⟩ (J s3 x.pn c3)):=m.set 21 _ rfl;obtain⟨W7,u⟩:=Ex (w6.setCell ⟨w.heap.size+1,21,I⟩ (J s3 x.pn c3));rw[<-u]at d
 have b7:∀S:Nat->Prop,S (w.heap.size+1)->Mod S w6 W7:=λS hS=>by rw[u];exact Mod.setCell _ _ _ _ hS
 obtain⟨y,hy⟩:∃y:ar,y={ x with so:=s1,sc:=c1,go:=s2,gc:=c2,po:=s3,pc:=c3 }:=⟨_,rfl⟩;rw[<-hy]at d;have ao:=d.cp;have ac:=d.res;have n:(W7.setRow w.heap.size y.cells).heap[w.heap.size]?=Z (V y.cells 46 (0,0)):=Nj _ _ _ _ _ _ ac;have p:=Rt d.low Ln y.cells
 have f:Alu w x (K y.val) (W7.setRow w.heap.size y.cells):=by
  have m3:Mod (T5 w.heap.size) w2 W3:=by rw[av.out];exact Mod.setCell _ _ _ _ (.inr rfl)
  have m5:Mod (T5 w.heap.size) w4 W5:=by rw[aA.out];exact Mod.setCell _ _ _ _ (.inr rfl)
  have m7:Mod (T5 w.heap.size) w6 W7:=b7 _ (.inr rfl);have me:Mod (T5 w.heap.size) W7 (W7.setRow w.heap.size y.cells):=Alv _ rfl (.inl rfl);have M6:=m7.trans me;have M4:=(m5.trans (Mod.ag b3)).trans M6;have M2:=(m3.trans (Mod.ag b2.out)).trans M4;have n1:=ap.out;have n3:=m3.size;have n2:=b1.size;have n4:=b2.size;have n5:=m5.size;have j1:=(Ec.mod (⟨i1.out,λ_ b o e c=>by obtain⟨_,e2,_⟩:=f1 b o e;rcases c with c|c<;>omega⟩:Ec w2 (T5 w.heap.size) s1 x.sn x.pl.sp.after) M2 λ_ _ c=>c).row;have j2:=(Ec.mod (⟨i2.out,λ_ b o e c=>by obtain⟨_,e2,_⟩:=f2 b o e;rcases c with c|c<;>omega⟩:Ec w4 (T5 w.heap.size) s2 x.gn x.pl.ak) M4 λ_ _ c=>c).row
  have j3:=Zr (Bb o3 M6 λk e c=>by
   obtain⟨_,_,e2⟩:=C8 o3 e
   rcases c with c|c<;>omega) (show w.heap.size<=W5.heap.size by omega)
  refine⟨y,rfl,?_,p⟩;subst hy
  exact⟨rfl,rfl,rfl,rfl,j1,q1.out,λb o e=>by obtain⟨_,e2,_⟩:=f1 b o e;omega,λb o e=>by
    obtain⟨_,e2,_,cc,e4⟩:=f1 b o e
    exact⟨cc,M2.aw e4 (λc=>by rcases c with c|c<;>omega)⟩,j2,q2.out,λb o e=>by obtain⟨_,e2,_⟩:=f2 b o e;omega,λb o e=>by
    obtain⟨_,e2,_,cc,e4⟩:=f2 b o e
    exact⟨cc,M4.aw e4 (λc=>by rcases c with c|c<;>omega)⟩,j3⟩
 replace⟨o3,b3,m,d,b7,hy,ao,ac⟩:=H8 o3 b3 m d b7 hy ao ac;replace⟨n,p,f⟩:=H3 n p f;clear x3;go_upto_region 5 with fail;rw[<-u];clear u aG aD;go_wp2_with (first|(refine Xc rfl 46 _ rfl (w.heap.size+1) rfl 46 y.cells (0,0) _ ao.out R7 rfl Kz ?_)|((refine Od rfl 46 _ _ rfl w.heap.size y.cells rfl rfl 46 _ ac.out Kz rfl (Ru y) ?_)));refine Ak (v:=y.val) ?_ rfl f.out;exact results_cell_row rfl _ _ w.heap.size 46 y.cells (0,0) _ rfl n.out R7 rfl Kz
def D1 {B:Nat} {a w:WD} (h:BW B a w) {g o:Nat} {v:VL} (c:B<=g):BW B a (w.setCell ⟨g,o,I⟩ v):=
 ⟨h.os,h.tape,h.output,by have:=h.size;simpa[World.setCell]using this,λk b=>(Cm _ _ _ _ (λe=>by simp at e;omega)).trans (h.block k b)⟩
def Alw (w:WD) (c:Cl) (e:Ending) (w':WD):Prop:=e=K (E #[G O c.seq,F9 c])/\BW w.heap.size w w'
def Azd {w:WD} {T:Tv} (h:An w T) {k:Int} (h1:-9223372036854775808<=k) (h2:k<=9223372036854775807) :
  CS prog 32 #[Q (Z ⟨T.tb,0,I⟩),G O k] w (Alw w (E0 T.cls k)):=by
 obtain⟨g,d⟩:=Ex (w.alloc (V #[G O 0,G O 0,G O 0] 35));have i:BW w.heap.size w g:=by rw[d];exact Bn
 have p:=h.low i;have u:=Zo p.cls h1 h2;obtain⟨⟨l,m,n,o⟩,t⟩:∃c,c=E0 T.cls k:=⟨_,rfl⟩;rw[<-t]at u ⊢;unfold Gu at u;have z:=Bk p.head 2 (.map (Z T.mb)) rfl;have q:g.heap[w.heap.size]?=Z (V #[G O 0,G O 0,G O 0] 35 (0,0)):=by rw[d];exact Ah _ _
 have j:=Ab q;replace⟨h,p,t,i,q⟩:=H5 h p t i q;go_enter func32,ntmps32;go_upto_region 1 with fail;rw[<-d];clear d;go_wp2;obtain⟨r,b⟩:=Ex (g.alloc (V #[G O l,G O m,G O n,G O o] 123));have s:BW w.heap.size w r:=by rw[b];exact i.alloc i.size _
 have a:r.heap[g.heap.size]?=Z (V #[G O l,G O m,G O n,G O o] 123 (0,0)):=by rw[b];exact Ah _ _
 have e:r.heap[w.heap.size]?=Z (V #[G O 0,G O 0,G O 0] 35 (0,0)):=by rw[b];exact Aj _ q.out
 obtain⟨k6,f⟩:=Ex (g.heap.size);rw[<-b,<-f];rw[<-f]at a j;have s0:=Bk a 0 (G O l) rfl;have s1:=Bk a 1 (G O m) rfl;have s2:=Bk a 2 (G O n) rfl;have s3:=Bk a 3 (G O o) rfl;obtain⟨t0,x,y⟩:=C3 e;(try dsimp only at t0 x y);have ft:=Af e;replace⟨s,a,e⟩:=H3 s a e;clear b f j z u;go_region;go_wp2;refine Ak (v:=E #[G O l,F9 ⟨l,m,n,o⟩]) (by simp[results,results32,go_sem,t0,x,y]) rfl ⟨rfl,?_⟩;exact(D1 (D1 (D1 s.out Ln) Ln) Ln).trans ⟨rfl,rfl,rfl,Nat.le_refl _,λ_ _=>rfl⟩
def Adx {P:Program} {fn:Func} {p t0:Tmp} {a:TypeId} (h:fn.results=#[.cell p a,.tmp t0]) (tmps:Array VL) (w:WD) (g:Nat) (t:TypeId) (cs:Array VL) (fr:Nat×Nat) (d:TypeDesc)
  (i:tmps.getD p undef=Q (Z ⟨g,0,I⟩)) (e:w.heap[g]?=Z (V cs t fr))
  (j:P.underlying a=Z d) (c:(match d with | .struct _ | .array _ _=>true|_=>false)=true) (f:(P.info? a).map (·.size)=Z cs.size) :
  (results fn tmps).run P w=.ok (E #[.agg cs,tmps.getD t0 undef]) w:=by
 have b:tmps[p]?.getD undef=Q (Z ⟨g,0,I⟩):=by simpa using i
 simp[results,h,b,asAddr,run_loadVar_row w g t a cs fr d e j c f]
def Zs (w:WD) (T:Tv) (id:Int) (e:Ending) (w':WD):Prop:=
 BW w.heap.size w w'/\(((id<1\/(T.js.length:Int)<id)/\e=K (E #[ar.zero.val,D false]))\/∃(k:Nat) (j:Nat×ar) (y:ar),id=(k:Int)+1/\T.js[k]?=Z j/\e=K (E #[y.val,D true])/\M8 w w' j.2 y)
def Zt (x:ar):Prop:=x.sn<=1000/\x.gn<=1000/\x.pn<=1000000
def M8.mod {n w' p:WD} {x y:ar} {S:Nat->Prop} (h:M8 n w' x y) (d:Mod S w' p) (f:∀b,S b->∀a,w'.heap[b]?≠Z (V a 3 (0,0))/\w'.heap[b]?≠Z (V a 65 (0,0))):M8 n p x y:=by
 obtain⟨a1,a2,a3,q,v,r,t,l,z,s,u,m,g⟩:=h
 have i:∀b o,y.so=Z ⟨b,o,I⟩->¬S b:=λb o e c=>by obtain⟨a,h⟩:=l b o e;exact(f b c a).1 h
 have j:∀b o,y.go=Z ⟨b,o,I⟩->¬S b:=λb o e c=>by obtain⟨a,h⟩:=m b o e;exact(f b c a).1 h
 refine⟨a1,a2,a3,q,?_,r,t,λb o e=>?_,?_,s,u,λb o e=>?_,Bb g d λk e c=>?_⟩
 .exact (Ec.mod (⟨v,λ_ b o e c=>i b o e c⟩:Ec w' S y.so y.sn x.pl.sp.after) d λ_ _ c=>c).row
 .obtain ⟨a,h⟩:=l b o e;exact⟨a,d.aw h (i b o e)⟩
 .exact (Ec.mod (⟨z,λ_ b o e c=>j b o e c⟩:Ec w' S y.go y.gn x.pl.ak) d λ_ _ c=>c).row
 .obtain ⟨a,h⟩:=m b o e;exact⟨a,d.aw h (j b o e)⟩
 .obtain ⟨a,h,_⟩:=C8 g e;exact(f k c a).2 h
def M8.zv {a w' d:WD} {x y:ar} (h:M8 a w' x y) {g:Nat} {cs:Array VL} (e:w'.heap[g]?=Z (V cs 46 (0,0))) (f:Mod (λk=>k=g) w' d):M8 a d x y:=
 h.mod f λb c i=>by
  subst c;rw[e];exact⟨as9,as9⟩
def M8.mono {c w1 w':WD} {x y:ar} (h:M8 c w' x y) (a:w1.heap.size<=c.heap.size):M8 w1 w' x y:=
 ⟨h.pl,h.sn,h.gn,h.pn,h.after,h.pz,λb o e=>Ay a (h.vm b o e),h.yq,h.ak,h.oh,λb o e=>Ay a (h.vq b o e),h.yy,Zr h.parts a⟩
def Aze {w:WD} {T:Tv} (h:An w T) (l:∀j,j∈T.js->Zt j.2) (id:Int) :
  CS prog 16 #[Q (Z ⟨T.tb,0,I⟩),G O id] w (Zs w T id):=by
 obtain⟨W0,c⟩:=Ex (w.alloc (V Jz 46));have o:BW w.heap.size w W0:=by rw[c];exact Bn
 have ac:=o.size;have ad:w.heap.size<W0.heap.size:=by rw[c];simp
 have n:=h.low o;have q:W0.heap[w.heap.size]?=Z (V ar.zero.cells 46 (0,0)):=by rw[c];exact Ah _ _
 obtain⟨m,t⟩:=Ex (T.js.length);obtain⟨tb,ht⟩:=Ex (T.tb)
 obtain⟨so,cap,c4,d⟩:∃so cap,W0.cell? ⟨T.tb,4,I⟩=Z (J so T.js.length cap)/\T.js.length<=9223372036854775807:=by
  rcases n.ab.2 with⟨e,h0⟩|⟨g,cap,al,e,_,_,h1,h2,_⟩
  .exact ⟨I,0,by rw[Aa n.head 4,h0,<-e];rfl,ao9⟩
  .exact ⟨_,_,by rw[Aa n.head 4,<-e];rfl,by unfold maxLen at h2;omega⟩
 rw[<-t,<-ht]at c4;rw[<-t]at d;rw[<-ht];by_cases q1:id<1
 .have i:Zs w T id (K (E #[ar.zero.val,D false])) (W0.setRow w.heap.size ar.zero.cells):=⟨Rt o Ln _,.inl ⟨.inl q1,rfl⟩⟩;have a:=Nj W0 w.heap.size _ ar.zero.cells 46 (0,0) q;replace⟨h,l,o,n,q,t,ht,d⟩:=H8 h l o n q t ht d;replace⟨i,a⟩:=H2 i a;go_enter func16,ntmps16;go_upto_region 1 with fail;rw[<-c];clear c;go_wp2_with (refine Od rfl 46 _ _ rfl w.heap.size ar.zero.cells rfl rfl 46 _ q.out Kz rfl (Ru ar.zero) ?_);refine Ak (v:=E #[ar.zero.val,D false]) ?_ rfl i.out;exact Adx (p:=4) (t0:=5) rfl _ _ w.heap.size 46 ar.zero.cells (0,0) _ rfl a.out R7 rfl Kz
 by_cases q2:(m:Int)<id
 .have i:Zs w T id (K (E #[ar.zero.val,D false])) (W0.setRow w.heap.size ar.zero.cells):=⟨Rt o Ln _,.inl ⟨.inr (by rw[<-t];exact q2),rfl⟩⟩;have a:=Nj W0 w.heap.size _ ar.zero.cells 46 (0,0) q;replace⟨h,l,o,n,q,t,ht,d⟩:=H8 h l o n q t ht d;replace⟨i,a⟩:=H2 i a;go_enter func16,ntmps16;go_upto_region 1 with fail;rw[<-c];clear c;go_wp2_with (refine Od rfl 46 _ _ rfl w.heap.size ar.zero.cells rfl rfl 46 _ q.out Kz rfl (Ru ar.zero) ?_);refine Ak (v:=E #[ar.zero.val,D false]) ?_ rfl i.out;exact Adx (p:=4) (t0:=5) rfl _ _ w.heap.size 46 ar.zero.cells (0,0) _ rfl a.out R7 rfl Kz
 obtain⟨k,rfl⟩:∃k:Nat,id=(k:Int)+1:=⟨(id-1).toNat,ao9⟩;have hk:k<T.js.length:=ao9
 obtain⟨j,hj⟩:=Ge T.js k hk;obtain⟨g,af,u,cj,_,_⟩:=n.lh hj;rw[<-t,<-ht]at u;rw[u]at c4;injection c4 with c4;injection c4 with e1 e2 e3;subst e1;subst e3;have c4:=u;clear u e2;have f:=Ai hj;obtain⟨s1,s2,s3⟩:=l j f;have kc:=Azc (n.box j f) (n.ok j f) s1 s2 s3;have an:(k:Int)<m:=ao9
 have am:(0:Int)<=(k:Int):=ao9
 obtain⟨b,x⟩:=j;simp only at cj kc;replace⟨h,l,o,n,q,t,ht,hj⟩:=H8 h l o n q t ht hj;replace⟨f,s1,s2,s3,kc⟩:=H5 f s1 s2 s3 kc;go_enter func16,ntmps16;go_upto_region 1 with fail;rw[<-c];clear c;go_wp2_with fail;refine kc.mono ?_;rintro e w2 ⟨y,rfl,hy,z⟩;have r:=Ae z q.out ad;have a:=Nj w2 w.heap.size _ y.cells 46 (0,0) r
 have s:Zs w T ((k:Int)+1) (K (E #[y.val,D true])) (w2.setRow w.heap.size y.cells):=
  ⟨Rt (o.trans (z.mono ac)) Ln _,.inr ⟨k,_,y,rfl,hj.out,rfl,(hy.zv r (Alv _ rfl rfl)).mono ac⟩⟩
 replace⟨hy,z,r,a,s⟩:=H5 hy z r a s;clear c4 cj;go_wp2_with (refine Od rfl 46 _ _ rfl w.heap.size y.cells rfl rfl 46 _ r.out Kz rfl (Ru y) ?_);refine Ak (v:=E #[y.val,D true]) ?_ rfl s.out;exact Adx (p:=4) (t0:=5) rfl _ _ w.heap.size 46 y.cells (0,0) _ rfl a.out R7 rfl Kz
def Alx (u v:V4):V4:=⟨u.a+v.a,u.b+v.b,u.c+v.c,u.d+v.d⟩
def Rv (d:Nat) (u v:V4):V4:=⟨if 0<d then u.a+v.a else u.a,if 1<d then u.b+v.b else u.b,if 2<d then u.c+v.c else u.c,if 3<d then u.d+v.d else u.d⟩
def Kd (i:Int) (j:Jb) (n:Nat) (v:V4):V4:=((j.parts.take n).filter λp=>decide (p.1=i) && decide (p.2=0)).foldl (λv _=>Alx v j.sp.df) v
def Azf (i:Int) (j:Jb) (v:V4):Kd i j 0 v=v:=rfl
def Azg {i:Int} {j:Jb} {n:Nat} {v:V4} {p:Int×Int} (a:j.parts[n]?=Z p):Kd i j (n+1) v=if (decide (p.1=i) && decide (p.2=0))=true then Alx (Kd i j n v) j.sp.df else Kd i j n v:=by
 unfold Kd;rw[L7,a,Pc,L8];simp only[Option.toList_some];by_cases q:(decide (p.1=i) && decide (p.2=0))=true
 .rw [Ad q,List.filter_cons,Ad q];rfl
 .rw [Ac q,List.filter_cons,Ac q];rfl
def Azh (i:Int) (j:Jb) (v:V4):Kd i j j.parts.length v=Yi i j v:=by
 unfold Kd Yi;rw[Pg];rfl
def wj (v:V4) (m:Int):Prop:=0<=v.a/\v.a<=m/\0<=v.b/\v.b<=m/\0<=v.c/\v.c<=m/\0<=v.d/\v.d<=m
def Aly (x:ar):Prop:=wj x.pl.sp.df 1099511627776/\x.pn<=1000
structure Ik (w:WD) (v:V4) (wr:WD):Prop where
 low:BW w.heap.size w wr
 res:wr.heap[w.heap.size]?=Z (V V4.zero.cells 30 (0,0))
 vec:wr.heap[w.heap.size+1]?=Z (V v.cells 30 (0,0))
def Ik.next {w wr w':WD} {v:V4} (h:Ik w v wr) (a:BW wr.heap.size wr w'):Ik w v w':=
 ⟨h.low.trans (a.mono h.low.size),Ae a h.res (Ab h.res),Ae a h.vec (Ab h.vec)⟩
def Ik.set {w wr:WD} {v u:V4} (h:Ik w v wr) (o:Nat) (x:VL) (e:v.cells.setIfInBounds o x=u.cells):Ik w u (wr.setCell ⟨w.heap.size+1,o,I⟩ x):=
 ⟨D1 h.low ao9,(Cm _ _ _ _ (λe=>by simp at e)).trans h.res,by rw[<-e];exact Am h.vec _ _⟩
def Ik.new (w:WD):Ik w V4.zero ((w.alloc (V V4.zero.cells 30)).alloc (V V4.zero.cells 30)):=
 ⟨Bn.alloc as9 _,Aj _ (Ah _ _),A5 _ _ as9⟩
def Qf (i:Int) (js:List Jb) (k:Nat):V4:=(js.take k).foldl (λv j=>Yi i j v) ⟨0,0,0,0⟩
def Zu {P:Program} {b:Array Oper} {rest:List Oper} {o:Oper} {a:Act} {w:WD} {Q9q:Exit->Act->WD->Prop} (c:o.guard=I) (t:TypeId) (x d:Operand) (f:o.op=.index t x d) (v:VL)
  (g:(Instr.index t (a.eval x) (a.eval d)).run P w=.ok v w) (h:wpList P b Q9q rest (a.put o.dst v) w):wpList P b Q9q (o :: rest) a w:=
 wpList_plain c λ_ e=>by
  unfold Oper.wp execOp;simp only[f,g,Sem.run_bind,Sem.run_pure,Result.andThen_ok];exact e _ _ h
def ix0 (a b c d:Int) (w:WD):(Instr.index 30 (.agg #[G O a,G O b,G O c,G O d]) (G O 0)).run prog w=.ok (G O a) w:=by kernel_rfl
def ix1 (a b c d:Int) (w:WD):(Instr.index 30 (.agg #[G O a,G O b,G O c,G O d]) (G O 1)).run prog w=.ok (G O b) w:=by kernel_rfl
def ix2 (a b c d:Int) (w:WD):(Instr.index 30 (.agg #[G O a,G O b,G O c,G O d]) (G O 2)).run prog w=.ok (G O c) w:=by kernel_rfl
def ix3 (a b c d:Int) (w:WD):(Instr.index 30 (.agg #[G O a,G O b,G O c,G O d]) (G O 3)).run prog w=.ok (G O d) w:=by kernel_rfl
def Azi {w:WD} {T:Tv} (h:An w T) (hd:∀j,j∈T.js->Aly j.2) (a1:T.js.length<=1000) (node:Int) :
  CS prog 17 #[Q (Z ⟨T.tb,0,I⟩),G O node] w λe w'=>e=K (U0 T.pl.ab node).val/\BW w.heap.size w w':=by
 obtain⟨m,hm⟩:=Ex (T.js.length);obtain⟨tb,ht⟩:=Ex (T.tb);have af:=Ik.new w;obtain⟨W0,aI⟩:=Ex ((w.alloc (V #[G O 0,G O 0,G O 0,G O 0] 30)).alloc (V #[G O 0,G O 0,G O 0,G O 0] 30));have af:Ik w V4.zero W0:=by rw[aI];exact af
 have ap:=h.low af.low
 obtain⟨so,cap,c4,aF⟩:∃so cap,W0.cell? ⟨T.tb,4,I⟩=Z (J so T.js.length cap)/\T.jv=J so T.js.length cap:=by
  rcases ap.ab.2 with⟨e,h0⟩|⟨g,cap,bd,e,_,_,h1,h2,_⟩
  .exact ⟨I,0,by rw[Aa ap.head 4,h0,<-e];rfl,by rw[h0,e]⟩
  .exact ⟨_,_,by rw[Aa ap.head 4,<-e];rfl,e⟩
 rw[<-hm,<-ht]at c4;rw[<-hm]at a1 aF;rw[<-ht];replace⟨h,hd,hm,ht,aF,af,ap⟩:=H7 h hd hm ht aF af ap;go_enter func17,ntmps17;go_upto_region 2 with fail;rw[<-aI];clear aI;go_wp2_with fail;clear c4;go_loopw [7,9,10,11,21,30,48] (λ_ _ _ _ iv _ _ wr=>∃(k:Nat),iv=G O k/\k<=m/\Hid (Ik w (Qf node T.pl.ab k) wr)/\Hid (wj (Qf node T.pl.ab k) (1099511627776*(1000*(k:Int))))) (λ_ _ _ _ iv _ _ _=>m-(intOf iv).toNat)
 case atStart=>exact⟨0,rfl,As _,af.out,Hh (by simp[Qf,wj])⟩
 case round=>
  obtain⟨k,rfl,bi,t,aM⟩:=hrel;by_cases hc:k<m
  .have aX:(k:Int)<m:=ao9;have bg:(0:Int)<=(k:Int):=ao9;have hA:=h.low t.low;obtain⟨j,hj⟩:=Ge T.js k (by have:=hm.out;omega);obtain⟨g,a4,_,cj,_,aL⟩:=hA.lh hj;have e1:so=Z ⟨g,0,I⟩:=(by have:=aF.symm.trans aL;injection this);subst e1;have r:=Ai hj;obtain⟨q,aN⟩:=hd j r;obtain⟨b,x⟩:=j;have aK:T.pl.ab[k]?=Z x.pl:=(by simp[Tv.pl,hj]);have z:∀W,BW w.heap.size w W->Bc W b x:=λW hW=>(h.low hW).box _ r;have ad:∀W,BW w.heap.size w W->Bv W x:=λW hW=>((h.low hW).ok _ r).parts;have ac:=Ji (ad w (Below.refl _ _));obtain⟨A,aD⟩:=Ex (Qf node T.pl.ab k);have aC:Qf node T.pl.ab (k+1)=Kd node x.pl x.pn A:=(by rw[<-ac,Azh,aD];unfold Qf;rw[L7,aK,L8];rfl);rw[<-aD]at t aM;have aA:=z _ t.low;simp only at cj q aN;have aO:=Bk aA 21 (J x.po x.pn x.pc) rfl;obtain⟨⟨da,db,dc,dd⟩,o⟩:∃d,d=x.pl.sp.df:=⟨_,rfl⟩;rw[<-o]at q;obtain⟨po,aG⟩:=Ex (x.po);obtain⟨pn,s⟩:=Ex (x.pn);rw[<-aG,<-s]at aO;rw[<-s]at aN ac aC;replace⟨hA,hj,aL,r,q,aK,z,ad⟩:=H8 hA hj aL r q aK z ad;replace⟨ac,aD,aC,aA,o,aG,s⟩:=H7 ac aD aC aA o aG s;go_wp2_with fail;clear cj aO;go_loopw [9,10,11,30,48] (λ_ _ _ iv _ wr=>∃(n:Nat),iv=G O n/\n<=pn/\Hid (Ik w (Kd node x.pl n A) wr)/\Hid (wj (Kd node x.pl n A) (1099511627776*(1000*(k:Int)+n)))) (λ_ _ _ iv _ _=>pn-(intOf iv).toNat)
   case atStart=>exact⟨0,rfl,As _,t.out,Hh (by have:=aM.out;rw[Azf];simpa using this)⟩
   case round=>
    obtain⟨n,rfl,bl,al,av⟩:=hrel;by_cases aY:n<pn
    .have aZ:(n:Int)<pn:=ao9;have bk:(0:Int)<=(n:Int):=ao9;obtain⟨pb,p,e,hp,c0,c1⟩:=Pw (ad _ al.low) (k:=n) (by rw[<-s.out];exact aY);have e2:=aG.trans e;subst e2;obtain⟨p1,p2⟩:=p;simp only at c0 c1;have ao:=Azg (i:=node) (v:=A) hp;obtain⟨u,hu⟩:=Ex (Kd node x.pl n A);rw[<-hu]at al av ao;obtain⟨W3,aE⟩:=Ex (wr.alloc (V #[G O p1,G O p2] 65));have aJ:BW wr.heap.size wr W3:=(by rw[aE];exact Bn);have am:=al.next aJ;have aH:W3.heap[wr.heap.size]?=Z (V #[G O p1,G O p2] 65 (0,0)):=(by rw[aE];exact Ah _ _);have x0:=Bk aH 0 (G O p1) rfl;have x1:=Bk aH 1 (G O p2) rfl;have an:=z _ am.low;have d4:W3.cell? ⟨b,4,I⟩=Z (G O da):=(by rw[Aa an 4,show da=x.pl.sp.df.a by rw[<-o.out]];rfl);have d5:W3.cell? ⟨b,5,I⟩=Z (G O db):=(by rw[Aa an 5,show db=x.pl.sp.df.b by rw[<-o.out]];rfl);have d6:W3.cell? ⟨b,6,I⟩=Z (G O dc):=(by rw[Aa an 6,show dc=x.pl.sp.df.c by rw[<-o.out]];rfl);have d7:W3.cell? ⟨b,7,I⟩=Z (G O dd):=(by rw[Aa an 7,show dd=x.pl.sp.df.d by rw[<-o.out]];rfl);replace⟨hp,e,ao,hu,aJ,am,aH,an⟩:=H8 hp e ao hu aJ am aH an;replace al:=Hh al;go_upto_region 10 with fail;rw[<-aE];clear aE c0 c1;obtain⟨a5,a6,a7,a8,a9,ba,bb,bc⟩:=av.out;obtain⟨aP,aQ,aR,aS,aT,aU,aV,aW⟩:=q.out;simp only at aP aQ aR aS aT aU aV aW;by_cases q1:p1=node
     .by_cases q2:p2=0
      .subst q1;subst q2;have f:Kd p1 x.pl (n+1) A=Rv 4 u ⟨da,db,dc,dd⟩:=(by rw[ao.out,<-o.out,Ad as9];rfl);replace f:=Hh f;go_wp2_with fail;clear x0 x1 d4 d5 d6 d7;go_loopw [10,11,48] (λ_ _ iv wr=>∃(d:Nat),iv=G O d/\d<=4/\Hid (Ik w (Rv d u ⟨da,db,dc,dd⟩) wr)) (λ_ _ iv _=>4-(intOf iv).toNat)
       case atStart=>exact⟨0,rfl,ao9,am.out⟩
       case round=>
        obtain⟨d,rfl,bf,l⟩:=hrel;by_cases be:d<4
        .rcases (by omega:d=0\/d=1\/d=2\/d=3)with rfl|rfl|rfl|rfl
         .have u0:=Bk l.vec 0 (G O u.a) rfl;have fr:=Af l.vec;have y:Ik w (Rv 1 u ⟨da,db,dc,dd⟩) (wr.setCell ⟨w.heap.size+1,0,I⟩ (G O (u.a+da))):=l.set 0 _ rfl;replace y:=Hh y;go_wp2_with (refine Zu rfl _ _ _ rfl _ (ix0 _ _ _ _ _) ?_);go_roundw
          case rel=>exact⟨1,rfl,ao9,y⟩
          case measure=>simp[intOf]
         .have u1:=Bk l.vec 1 (G O u.b) rfl;have fr:=Af l.vec;have y:Ik w (Rv 2 u ⟨da,db,dc,dd⟩) (wr.setCell ⟨w.heap.size+1,1,I⟩ (G O (u.b+db))):=l.set 1 _ rfl;replace y:=Hh y;go_wp2_with (refine Zu rfl _ _ _ rfl _ (ix1 _ _ _ _ _) ?_);go_roundw
          case rel=>exact⟨2,rfl,ao9,y⟩
          case measure=>simp[intOf]
         .have u2:=Bk l.vec 2 (G O u.c) rfl;have fr:=Af l.vec;have y:Ik w (Rv 3 u ⟨da,db,dc,dd⟩) (wr.setCell ⟨w.heap.size+1,2,I⟩ (G O (u.c+dc))):=l.set 2 _ rfl;replace y:=Hh y;go_wp2_with (refine Zu rfl _ _ _ rfl _ (ix2 _ _ _ _ _) ?_);go_roundw
          case rel=>exact⟨3,rfl,ao9,y⟩
          case measure=>simp[intOf]
         .have u3:=Bk l.vec 3 (G O u.d) rfl;have fr:=Af l.vec;have y:Ik w (Rv 4 u ⟨da,db,dc,dd⟩) (wr.setCell ⟨w.heap.size+1,3,I⟩ (G O (u.d+dd))):=l.set 3 _ rfl;replace y:=Hh y;go_wp2_with (refine Zu rfl _ _ _ rfl _ (ix3 _ _ _ _ _) ?_);go_roundw
          case rel=>exact⟨4,rfl,ao9,y⟩
          case measure=>simp[intOf]
        .have a0:d=4:=ao9;subst a0;go_wp2;go_roundw
         case rel=>exact⟨n+1,by go_num,ao9,Hh (by rw[f.out];exact l.out),Hh (by rw[f.out];refine⟨?_,?_,?_,?_,?_,?_,?_,?_⟩<;>simp[Rv]<;>omega)⟩
         case measure=>simp[intOf];omega
      .clear d4 d5 d6 d7;have f:Kd node x.pl (n+1) A=u:=(by rw[ao.out,Ac (by simp;omega)]);replace f:=Hh f;go_wp2;go_roundw
       case rel=>exact⟨n+1,by go_num,ao9,Hh (by rw[f.out];exact am.out),Hh (by rw[f.out];refine⟨?_,?_,?_,?_,?_,?_,?_,?_⟩<;>omega)⟩
       case measure=>simp[intOf];omega
     .clear d4 d5 d6 d7;have f:Kd node x.pl (n+1) A=u:=(by rw[ao.out,Ac (by simp;omega)]);replace f:=Hh f;go_wp2;go_roundw
      case rel=>exact⟨n+1,by go_num,ao9,Hh (by rw[f.out];exact am.out),Hh (by rw[f.out];refine⟨?_,?_,?_,?_,?_,?_,?_,?_⟩<;>omega)⟩
      case measure=>simp[intOf];omega
    .have aZ:¬(n:Int)<pn:=ao9;have a3:n=pn:=ao9;subst a3;go_wp2;go_roundw
     case rel=>exact⟨k+1,by go_num,ao9,Hh (by rw[aC.out];exact al.out),Hh (by rw[aC.out];obtain⟨b1,b2,b3,b4,b5,b6,b7,b8⟩:=av.out;refine⟨b1,?_,b3,?_,b5,?_,b7,?_⟩<;>omega)⟩
     case measure=>simp[intOf];omega
  .have aX:¬(k:Int)<m:=ao9;have a2:k=m:=ao9;subst a2;obtain⟨u,hu⟩:=Ex (Qf node T.pl.ab k);have aB:u=U0 T.pl.ab node:=(by rw[hu];unfold Qf U0;rw[Cr (by simp[Tv.pl];have:=hm.out;omega)]);rw[<-hu]at t;have u0:=Bk t.vec 0 (G O u.a) rfl;have u1:=Bk t.vec 1 (G O u.b) rfl;have u2:=Bk t.vec 2 (G O u.c) rfl;have u3:=Bk t.vec 3 (G O u.d) rfl;have r0:=Bk t.res 0 (G O 0) rfl;have r1:=Bk t.res 1 (G O 0) rfl;have r2:=Bk t.res 2 (G O 0) rfl;have r3:=Bk t.res 3 (G O 0) rfl;have fr:=Af t.res;replace⟨hu,aB⟩:=H2 hu aB;go_wp2;refine Ak (v:=u.val) (by simp[results,results17,go_sem,r0,r1,r2,r3]) rfl ⟨by rw[aB.out],?_⟩;exact D1 (D1 (D1 (D1 t.low Ln) Ln) Ln) Ln
def lr:Er:=⟨false,false,-1⟩
structure Ke (w:WD) (fb:Nat) (vs:List ax) (kn kc:Nat) (cv nv:VL) (wr:WD):Prop where
 low:BW w.heap.size w wr
 head:wr.heap[w.heap.size]?=Z (V #[G O 0,G O (-1),.map (Z (w.heap.size+1)),nv,J I 0 0,Q (Z ⟨fb,0,I⟩),cv] 115 (0,0))
 map:wr.heap[w.heap.size+1]?=Z (.map #[] 0)
 nodes:wr.ownsRow (w.heap.size+2) 119 3 nv kn (Av Ej (List.replicate kn lr))
 bh:wr.ownsRow (w.heap.size+2) 30 4 cv kc (Av V4.cells ((vs.take kc).map ax.cap))
def N5 {w:WD} {B size n b:Nat} {T:TypeId} {v:VL} {xs:List VL} (h:w.ownsRow B T size v n xs) (a:v.ownBlock=Z b):B<=b:=(C8 h a).choose_spec.2
variable {w wr w2 w9:WD} {fb k:Nat} {vs:List ax} {cv nv v9:VL} {v:ax}
def Ke.next {d b:Nat} (h:Ke w fb vs d b cv nv wr) (a:BW wr.heap.size wr w2):Ke w fb vs d b cv nv w2:=
 ⟨h.low.trans (a.mono h.low.size),Ae a h.head (Ab h.head),Ae a h.map (Ab h.map),
  Bb (S:=λ_=>False) h.nodes ((Mod.ag a).mono λ_ _ c=>c) λ_ _ c=>c,Bb (S:=λ_=>False) h.bh ((Mod.ag a).mono λ_ _ c=>c) λ_ _ c=>c⟩
def Ke.cap (h:Ke w fb vs k k cv nv wr) (q:vs[k]?=Z v) (a:w9.ownsRow (w.heap.size+2) 30 4 v9 (k+1) (Av V4.cells ((vs.take k).map ax.cap)++v.cap.cells.toList))
  (n:wr.grownBy w9 cv.ownBlock):Ke w fb vs k (k+1) v9 nv (w9.setCell ⟨w.heap.size,6,I⟩ v9):=by
 have f:=Mod.grown n λ_ e=>e;have d:∀b,cv.ownBlock=Z b->w.heap.size+2<=b:=λb e=>N5 h.bh e
 have o:=f.aw h.head λe=>by have:=d _ e;omega
 have p:=f.aw h.map λe=>by have:=d _ e;omega
 have i:=Bb h.nodes f λb e c=>by
  obtain⟨j,m,_⟩:=C8 h.bh c;exact Bq h.nodes m ad9 e
 have g:Mod (λb=>b=w.heap.size) w9 (w9.setCell ⟨w.heap.size,6,I⟩ v9):=Mod.setCell _ _ _ _ rfl;refine⟨D1 (h.low.trans (f.below h.low.size λb e=>by have:=d b e;omega)) Ln,Am o 6 v9,g.aw p ao9,Bb i g λb e c=>?_,?_⟩
 .have:=N5 i e;omega
 .have l:=Bb a g λb e c=>by have:=N5 a e;omega
  rw[L7,q,C2,Pm];simpa[Av]using l
def Ke.node (h:Ke w fb vs k (k+1) cv nv wr) (a:w9.ownsRow (w.heap.size+2) 119 3 v9 (k+1) (Av Ej (List.replicate k lr)++(Ej lr).toList))
  (n:wr.grownBy w9 nv.ownBlock):Ke w fb vs (k+1) (k+1) cv v9 (w9.setCell ⟨w.heap.size,3,I⟩ v9):=by
 have f:=Mod.grown n λ_ e=>e;have d:∀b,nv.ownBlock=Z b->w.heap.size+2<=b:=λb e=>N5 h.nodes e
 have o:=f.aw h.head λe=>by have:=d _ e;omega
 have p:=f.aw h.map λe=>by have:=d _ e;omega
 have i:=Bb h.bh f λb e c=>by
  obtain⟨j,m,_⟩:=C8 h.nodes c;exact Bq h.bh m ad9 e
 have g:Mod (λb=>b=w.heap.size) w9 (w9.setCell ⟨w.heap.size,3,I⟩ v9):=Mod.setCell _ _ _ _ rfl;refine⟨D1 (h.low.trans (f.below h.low.size λb e=>by have:=d b e;omega)) Ln,Am o 3 v9,g.aw p ao9,?_,Bb i g λb e c=>?_⟩
 .have l:=Bb a g λb e c=>by have:=N5 a e;omega
  rw[List.replicate_succ',Pm];simpa[Av]using l
 .have:=N5 i e;omega
structure Azj (w:WD) (fb:Nat) (vs:List ax) (k:Nat) (nv:VL) (wx:WD):Prop where
 ex:∃cv,Ke w fb vs k (k+1) cv nv wx
def Azk:(prog.info? 30).map (λi=>(i.zero,i.size,i.bytes))=Z (Z V4.zero.val,4,32):=by kernel_rfl
def Azl:(prog.info? 119).map (λi=>(i.zero,i.size,i.bytes))=Z (Z (.agg #[D false,D false,G O 0]),3,16):=by kernel_rfl
def Alz {W:WD} {cs:Array VL} {T:TypeId}:∀j u,cs.toList[j]?=Z u->((W.alloc (V cs T)).drew).cell? ((⟨W.heap.size,0,I⟩:Addr).add j)=Z u:=λi u a=>by
 rw[show((⟨W.heap.size,0,I⟩:Addr).add i)=⟨W.heap.size,i,I⟩ by unfold Addr.add;split<;>simp_all,Aa (w:=(W.alloc (V cs T)).drew) (Ah W (V cs T)) i,<-a];simp
def Azm {w:WD} {b:Nat} (h:w.heap[b]?=Z (.map #[] 0)):Li w b []:=by
 obtain⟨d,c,a,rest⟩:=Aan (H:=Unit) w prog 3 Ps;rw[Ah]at a;injection a with a;injection a with e1 e2;subst e1;subst e2;exact⟨#[],0,h,rest⟩
def Acs (w:WD) (fb fm fl:Nat) (vs:List ax) (e:Ending) (w':WD):Prop:=
 ∃T:Tv,e=K (Q (Z ⟨T.tb,0,I⟩))/\An w' T/\BW w.heap.size w w'/\(∀b,T.az b->w.heap.size<=b)/\T.fb=fb/\T.fm=fm/\T.fl=fl/\T.vs=vs/\T.pl=⟨0,-1,[],List.replicate vs.length lr,[]⟩
def Acu {w:WD} {fb fm fl:Nat} {vs:List ax} (hf:kq w fb fm fl vs) (av:Iy vs):CS prog 14 #[Q (Z ⟨fb,0,I⟩)] w (Acs w fb fm fl vs):=by
 have aG:=λ(W:WD) (hW:BW w.heap.size w W)=>Af7 (hf.below hW);have aP:=λ(W:WD) (hW:BW w.heap.size w W) (i:Int)=>Agh (hf.below hW) av i;obtain⟨m,hm⟩:=Ex (vs.length);have aZ:=@run_makeMap prog;rw[<-hm]at aG;have a3:m<=16:=by rw[hm];exact av.len
 replace⟨hf,av,aG,aP,hm⟩:=H5 hf av aG aP hm;go_enter func14,ntmps14;go_upto_region 6 with fail;obtain⟨W0,aJ⟩:=Ex ((w.alloc (V #[G O 0,G O (-1),.map (Z (w.heap.size+1)),J I 0 0,J I 0 0,Q (Z ⟨fb,0,I⟩),J I 0 0] 115)).alloc (.map #[] 0));have aC:Ke w fb vs 0 0 (J I 0 0) (J I 0 0) W0:=by rw[aJ];exact⟨Bn.alloc as9 _,Aj _ (Ah _ _),A5 _ _ as9,Nb _ _ _ _,Nb _ _ _ _⟩
 rw[<-aJ];clear aJ aZ;replace aC:=Hh aC;go_wp2_with fail;refine(aG _ aC.low).mono ?_;rintro e w1 ⟨rfl,rfl⟩;go_wp2_with fail;go_loopw [4,5,6,23] (λ_ _ _ iv wr=>∃(k:Nat) (cv nv:VL),iv=G O k/\k<=m/\Hid (Ke w fb vs k k cv nv wr)) (λ_ _ _ iv _=>m-(intOf iv).toNat)
 case atStart=>exact⟨0,_,_,rfl,As _,aC⟩
 case round=>
  obtain⟨k,cv,nv,rfl,a5,hN⟩:=hrel;by_cases hc:k<m
  .have aX:(k:Int)<m:=ao9;have aQ:=aP _ hN.low (k:Int);replace aQ:=Hh aQ;go_wp2_with fail;refine aQ.mono ?_;rintro e w2 ⟨x,bb,rfl,hx,aK,_,ap⟩
   have hv:vs[k]?=Z x.pl:=by
    rcases ap with⟨_,_,h⟩|⟨_,_,h⟩
    .simpa using h
    .have:=hm.out;omega
   clear ap;replace⟨hx,aK,hv⟩:=H3 hx aK hv;go_upto_region 10 with fail;obtain⟨W3,aE⟩:=Ex (w2.alloc (V x.cells 69));have aL:BW w2.heap.size w2 W3:=(by rw[aE];exact Bn);have am:=(hN.next aK.out).next aL;have af:W3.heap[w2.heap.size]?=Z (V x.cells 69 (0,0)):=(by rw[aE];exact Ah _ _);have f6:=Bk am.head 6 cv rfl;have f3:=Bk am.head 3 nv rfl;have y1:=Bk af 1 (G O x.cap.a) rfl;have y2:=Bk af 2 (G O x.cap.b) rfl;have y3:=Bk af 3 (G O x.cap.c) rfl;have y4:=Bk af 4 (G O x.cap.d) rfl;obtain⟨bx,aM⟩:=Ex (w2.heap.size);have a6:=Ab am.head;rw[<-aE];rw[<-aM]at af y1 y2 y3 y4 ⊢;have r:Ke w fb vs k k cv nv ((W3.alloc (V x.cap.cells 30)).drew):=(am.next Bn).next ⟨rfl,rfl,rfl,Nat.le_refl _,λ_ _=>rfl⟩;have ad:=r.bh;have y:=Alz (W:=W3) (cs:=x.cap.cells) (T:=30)
   have aA:∀u∈x.cap.cells.toList,u.oneCell'=true:=by intro u hu;simp at hu;rcases hu with rfl|rfl|rfl|rfl<;>rfl
   have aB:=Ff (n:=k) ao9;have aN:(k+1)*32<=140737488355328:=ao9;have an:w.heap.size+2<=((W3.alloc (V x.cap.cells 30)).drew).heap.size:=Ab r.map
   have t:∀w9:WD,((W3.alloc (V x.cap.cells 30)).drew).grownBy w9 cv.ownBlock->w9.heap[w.heap.size]?=Z (V #[G O 0,G O (-1),.map (Z (w.heap.size+1)),nv,J I 0 0,Q (Z ⟨fb,0,I⟩),cv] 115 (0,0)):=λw9 hg=>
    (hg.block _ (Ab r.head) (λe=>by have:=N5 r.bh e.symm;omega)).trans r.head
   obtain⟨a0,aT,aU,aR,aS⟩:=B4 Azk;replace⟨aL,am,af,r,ad,y,aA,aB⟩:=H8 aL am af r ad y aA aB;replace⟨aN,an,t,aM⟩:=H4 aN an t aM;clear aE;go_cut [] (λwx=>Azj w fb vs k nv wx)
   case first=>
    go_region_law
     (first
       | (refine Uv (by rfl) _ _ _ (by rfl) (w.heap.size+2) 30 a0 _ 4 32 underlying113 aT aU aR aS rfl ad9 cv k _ (by rfl) ad.out ⟨W3.heap.size,0,I⟩ 1 x.cap.cells.toList (by rfl) (by rfl) y.out aA.out aB.out aN.out an.out ?_;intro g9 a2 w9 g f;have q9:=t w9 f;have f9:=Aa q9 6;have z9:=Af q9 6;simp at f9
          replace⟨q9,g,f⟩:=H3 q9 g f))
    all_goals
     go_wp2_with fail;go_meet;exact⟨_,r.cap hv.out g.out f.out⟩
   case rest=>
    obtain⟨aW,aD⟩:=hcut.ex;clear hcut f6 f3 y1 y2 y3 y4;have f3:=Bk aD.head 3 nv rfl;have q:Ke w fb vs k (k+1) aW nv (wc.alloc (V #[D false,D false,G O (-1)] 119)):=aD.next Bn;have ac:=q.nodes;have l:∀j u,(Ej lr).toList[j]?=Z u->(wc.alloc (V #[D false,D false,G O (-1)] 119)).cell? ((⟨wc.heap.size,0,I⟩:Addr).add j)=Z u:=Alz (W:=wc) (cs:=Ej lr) (T:=119)
    have z:∀u∈(Ej lr).toList,u.oneCell'=true:=by intro u hu;simp at hu;rcases hu with rfl|rfl|rfl<;>rfl
    have ao:(k+1)*16<=140737488355328:=ao9;have s:w.heap.size+2<=(wc.alloc (V #[D false,D false,G O (-1)] 119)).heap.size:=Ab q.map;obtain⟨aV,v,al,o,p⟩:=B4 Azl;replace⟨aD,q,ac,l,z,ao,s,v⟩:=H8 aD q ac l z ao s v;replace⟨al,o,p⟩:=H3 al o p;go_wp2_with (at_builtin;refine I7 _ rfl _ _ 109 rfl (w.heap.size+2) 119 aV _ 3 16 underlying109 v.out al.out o.out p.out rfl ad9 _ k _ rfl ac.out ⟨wc.heap.size,0,I⟩ 1 1 (Ej lr).toList rfl rfl l.out z.out aB.out ao.out s.out ?c6)
    case c6=>
     intro v' w9 g f aH;obtain⟨g5,a1,rfl⟩:=Joins.ownsRow_form g ao9
     have aF:=
      (f.block _ (Ab q.head) (λe=>by have:=N5 q.nodes e.symm;omega)).trans q.head
     have z9:=Bk aF 3 nv rfl;have a4:=Af aF;have aI:=q.node g f;clear f3;replace⟨g,f,aH,aF,aI⟩:=H5 g f aH aF aI;go_wp2;go_roundw
     case rel=>exact⟨k+1,_,_,by go_num,ao9,aI⟩
     case measure=>simp[intOf];omega
  .have aX:¬(k:Int)<m:=ao9;have aY:k=m:=ao9;subst aY;go_wp2;go_ret;have hN:=hN.out;have aO:=hm.out;refine⟨⟨w.heap.size,w.heap.size+1,nv,J I 0 0,fb,fm,fl,cv,0,-1,[],List.replicate k lr,[],vs⟩,rfl,⟨hN.head,?_,?_,Nb _ _ _ _,?_,λj hj=>by simp at hj,λj hj=>by simp at hj,as9,as9,?_,by simp[aO]⟩,hN.low,?_,rfl,rfl,rfl,rfl,by rw[<-aO];rfl⟩
   .exact Azm hN.map
   .have:=Zr (B':=0) hN.nodes (As _);simpa using this
   .have:=Zr (B':=0) hN.bh (As _);rw[Cr ao9]at this;rw[aO]at this;exact this
   .refine ⟨⟨w,hf.out,hN.low,λb hb=>?_⟩,av.out⟩;rcases hb with e|e|e|e|⟨j,hj,_⟩
    .have:b=w.heap.size:=e;omega
    .have:b=w.heap.size+1:=e;omega
    .have:=N5 hN.nodes e;omega
    .simp [Value.ownBlock]at e
    .simp at hj
   .intro b hb;rcases hb with e|e|e|e|⟨j,hj,_⟩
    .have:b=w.heap.size:=e;omega
    .have:b=w.heap.size+1:=e;omega
    .have:=N5 hN.nodes e;omega
    .simp [Value.ownBlock]at e
    .simp at hj
end
section
open Go.RowKit Go.Maps Go.Lib
def A0c {w:WD} {T:Tv} (h:An w T) {i:Nat} {j:Nat×ar} (hj:T.js[i]?=Z j) (hr:∀f,f∈j.2.pl.sp.after->1<=f/\f<=(T.js.length:Int)) :
  CS prog 189 #[Q (Z ⟨T.tb,0,I⟩),Q (Z ⟨j.1,0,I⟩)] w λe w'=>e=K (D (J2 T.pl.ab j.2.pl))/\BW w.heap.size w w':=by
 have b:=Ai hj;have cs:=Bk (h.box j b) 13 (J j.2.so j.2.sn j.2.sc) rfl;have ct:=Bk (h.box j b) 14 (G O j.2.pl.lf.st) rfl;have aj:=(h.ok j b).after.row;obtain⟨z,c⟩:=Ex (w.alloc (V #[Q (Z ⟨T.tb,0,I⟩)] 27 (0,0)));have a:BW w.heap.size w z:=by rw[c];exact Bn
 have x:z.cell? ⟨w.heap.size,0,I⟩=Z (Q (Z ⟨T.tb,0,I⟩)):=by rw[c];exact Aa (Ah _ _) 0
 have p:w.heap.size<z.heap.size:=by rw[c];simp
 have l:=(Ag a (Ab (h.box j b))).trans cs;have m:=(Ag a (Ab (h.box j b))).trans ct
 have g:=Ahy 247 #[Q (Z ⟨w.heap.size,0,I⟩)] (λf=>!decide (Me T.pl.ab f=5)) j.2.so j.2.sn j.2.sc j.2.pl.sp.after z (aj.low a) Axq (λf ac w1 o=>by
  obtain⟨h1,h2⟩:=hr f ac;obtain⟨k,rfl⟩:∃k:Nat,f=(k:Int)+1:=⟨(f-1).toNat,ao9⟩
  exact(Axr ((h.low a).low o) w.heap.size ((Ag o p).trans x) k ao9).mono λe w' ⟨he,hw⟩=>⟨he,by rw[hw];exact Below.refl _ _⟩)
 obtain⟨q,hq⟩:=Ex ((j.2.pl.sp.after.any λf=>!decide (Me T.pl.ab f=5)));have hz:J2 T.pl.ab j.2.pl=(decide (j.2.pl.lf.st=1) && !q):=by rw[hq];unfold J2;rw[List.all_eq_not_any_not]
 rw[<-hq]at g;rw[hz];obtain⟨tb,y⟩:=Ex (T.tb);obtain⟨jb,n⟩:=Ex (j.1);obtain⟨so,u⟩:=Ex (j.2.so);obtain⟨sn,t⟩:=Ex (j.2.sn);obtain⟨sc,s⟩:=Ex (j.2.sc);obtain⟨st,v⟩:=Ex (j.2.pl.lf.st);rw[<-u,<-t,<-s]at g l;rw[<-n]at l m;rw[<-v]at m ⊢;rw[c,<-y]at g;rw[c,<-y]at a l m;rw[<-y,<-n];clear hq hz aj cs ct x p c u t s n y h hj hr b v;by_cases r:st=1
 .subst r;replace⟨g,a⟩:=H2 g a;go_enter func189,ntmps189;go_wp2_with fail;refine(g.out).mono ?_;rintro e w' ⟨rfl,hb⟩;have d:=a.trans (hb.mono a.size);replace⟨d,hb⟩:=H2 d hb;go_wp2;go_ret;exact⟨as9,d.out⟩
 .replace ⟨g,a⟩:=H2 g a;go_enter func189,ntmps189;go_wp2_with fail
  all_goals
   go_ret;exact⟨by simp[r],a.out⟩
end
section
open Go.ChangeShapes Go.WideShapes Go.ChangeAt Go.RowKit
def A12:prog.cellsOf 38=1:=by kernel_rfl
def Am7:prog.cellsOf 40=10:=by kernel_rfl
def A13 {α:Type} {l:List α} (h:l.length=10):∃a b c d e f g i j k,l=[a,b,c,d,e,f,g,i,j,k]:=by
 match l,h with
 | [a,b,c,d,e,f,g,i,j,k],_=>exact⟨a,b,c,d,e,f,g,i,j,k,rfl⟩
abbrev Qh (w:WD) (so:Option Addr) (n:Nat) (xs:List de):Prop:=Agx de.cells 10 de.ok w so n xs
def Qh.low {w w':WD} {so:Option Addr} {n:Nat} {xs:List de} (h:Qh w so n xs) (c:BW w.heap.size w w'):Qh w' so n xs:=
 ⟨h.len,h.max,λi x l=>by
  obtain⟨b,d,e,a,f,k⟩:=h.cell i x l
  exact⟨b,d,e,By a c.size,λj g=>(Ag c a).trans (f j g),k.low c⟩⟩
section
variable {H:Type} {enc:TypeId×VL->H} {w:WD} {held:Bool} {fuel:Nat} {cs:List VL} {x:DataW H×List MemPlace}
def A14 {c:VL} (h:DataW.trod enc prog w 0 (λ_=>true) held fuel 38 [c]=Z x):∃a n b xs,c=J a n b/\J6 w a n xs/\n<=b:=by
 obtain⟨a,n,b,xs,e,d,f⟩:=Aby ay.zero ay.cells 13 (λw s=>s.ok w) underlying38 Am6 ad9 (λ_=>rfl) (λfuel cs x h=>A11 h) h;exact⟨a,n,b,xs,e,⟨d.len,d.max,d.cell⟩,f⟩
def Am8 (h:DataW.trod enc prog w 0 (λ_=>true) held fuel 40 cs=Z x):∃a:de,cs=a.cells.toList/\a.ok w:=by
 obtain⟨xs,n,_,rfl,hl,c,b⟩:=DataW.trod_struct underlying40 h;rw[Am7]at hl;obtain⟨c0,c1,c2,c3,c4,c5,c6,c7,c8,c9,rfl⟩:=A13 hl
 match xs,c with
 | [y0,y1,y2,y3,y4,y5,y6,y7,y8,y9],_=>
  have h0:=b 0 _ rfl;have h1:=b 1 _ rfl;have r:=b 2 _ rfl;have s:=b 3 _ rfl;have t:=b 4 _ rfl;have u:=b 5 _ rfl;have v:=b 6 _ rfl;have y:=b 7 _ rfl;have z:=b 8 _ rfl;have h9:=b 9 _ rfl;simp[Q5,A12]at h0 h1 r s t u v y z h9;obtain⟨n0,e,_,w0⟩:=Is D5 h0;obtain⟨n1,f,_,w1⟩:=Is D5 h1;obtain⟨n2,g,_,w2⟩:=Is D5 r;obtain⟨n3,j,_,w3⟩:=Is D5 s;obtain⟨n4,k,_,w4⟩:=Is D5 t;obtain⟨n5,l,_,w5⟩:=Is D5 u;obtain⟨n6,o,_,w6⟩:=Is D5 v;obtain⟨n7,p,_,w7⟩:=Is D5 y;obtain⟨n8,q,_,w8⟩:=Is D5 z;obtain⟨so,m,cp,zs,rfl,hz,d⟩:=A14 h9;simp at e f g j k l o p q;subst e f g j k l o p q;refine⟨⟨⟨n0,n1,n2,n3,n4,n5,n6,n7,n8⟩,so,m,cp,zs⟩,rfl,⟨hz,d,λi=>?_⟩⟩;have b0:=O4 w0;have b1:=O4 w1;have b2:=O4 w2;have b3:=O4 w3;have b4:=O4 w4;have b5:=O4 w5;have b6:=O4 w6;have b7:=O4 w7;have b8:=O4 w8;unfold dh.get
  split<;>first|assumption|omega
end
section
variable {H:Type} {enc:TypeId×VL->H} {w:WD} {held:Bool} {b0:Nat} {r:Reach} {v:VL} {d:DataW H} {p:List MemPlace}
def A15 (g:Value.okWide prog w r b0 40 v) (h:DataW.Trod enc prog w 0 (λ_=>true) held 40 v d p):∃a:de,v=a.val/\a.ok w:=by
 obtain⟨fuel,f⟩:=h
 obtain⟨cs,rfl⟩:∃cs,v=.agg cs:=by
  simp only[Value.okWide,underlying40]at g
  cases v<;>simp_all
 obtain⟨a,e,b⟩:=Am8 f;refine⟨a,?_,b⟩;have c:cs=a.cells:=Uj.1 e;rw[c]
end
end
section
open Go.ChangeShapes Go.WideShapes Go.ChangeAt Go.RowKit
variable {H:Type} {enc:TypeId×VL->H} {w:WD} {held:Bool} {b0:Nat} {r:Reach} {v:VL} {d:DataW H} {p:List MemPlace}
def A31 (k:Value.okWide prog w r b0 51 v) (h:DataW.Trod enc prog w 0 (λ_=>true) held 51 v d p):∃a n b xs,v=J a n b/\Qh w a n xs/\n<=b:=by
 obtain⟨f,g⟩:=h
 have c:v.cells.toList=[v]:=by
  simp only[Value.okWide,underlying51,Cell.okWide]at k
  cases v<;>simp_all [Value.cells,Cell.ok]
 rw[c]at g;obtain⟨a,n,b,xs,e,j,i⟩:=Aby (⟨⟨0,0,0,0,0,0,0,0,0⟩,I,0,0,[]⟩:de) de.cells 10 (λw s=>s.ok w) underlying51 Am7 ad9 (λ_=>rfl) (λ_ _ _ h=>Am8 h) g;exact⟨a,n,b,xs,e,j,i⟩
