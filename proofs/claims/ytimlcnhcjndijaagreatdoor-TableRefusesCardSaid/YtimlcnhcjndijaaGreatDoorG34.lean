/- Parts of a proof. No condition. -/
import Derived.Test.YtimlcnhcjndijaaGreatDoorG21
set_option linter.all false
set_option maxRecDepth 100000
set_option maxHeartbeats 3200000
namespace Go.Proofs.YtimlcnhcjndijaaGreatDoor
open IntKind renaming i64->O
open Value renaming int->G,pointer->Q,slice->J,bool->D,tuple->E,string->Y
open Ending renaming returned->K
open Option renaming some->Z,none->I
open Obj renaming cells->V
open Go renaming World->WD,Calls->CS
open Go.RowKit renaming Below->BW
open Go.Proofs.Tryz
section
open Go.RowKit Go.Maps Go.Lib
variable{T:Tv}{u v:V4}{w w' w1 wr:WD}
def Il (w:WD) (r:Int) (e:Ending) (w':WD):Prop:=e=K (G O r)/\BW w.heap.size w w'
def Al0   (x:de) (h:An w T) (hn:0<=x.n.node) (hk:x.n.kind=8\/x.n.kind=9\/x.n.kind=10\/x.n.kind=11) :
  CS prog 59 #[Q (Z ⟨T.tb,0,I⟩),x.val] w (Il w (Lp T.pl x.n)):=by
 obtain⟨W0,s⟩:=Ex (w.alloc (V x.cells 40 (0,0)));have b0:BW w.heap.size w W0:=by rw[s];exact Bn
 have u:=h.low b0;have p:W0.heap[w.heap.size]?=Z (V x.cells 40 (0,0)):=by rw[s];exact Ah _ _
 have aE:=Ab p;have ap:=Ab u.head
 obtain⟨so,cap,ac,c3,af⟩:∃so cap,T.nv=J so T.nodes.length cap/\W0.cell? ⟨T.tb,3,I⟩=Z (J so T.nodes.length cap)/\T.nodes.length<=9223372036854775807:=by
  rcases u.nodes.2 with⟨e,h0⟩|⟨g,cap,aK,e,_,_,h1,h2,_⟩
  .exact ⟨I,0,by rw[e,h0],by rw[Aa u.head 3,h0,<-e];rfl,ao9⟩
  .exact ⟨_,_,e,by rw[Aa u.head 3,<-e];rfl,by unfold maxLen at h2;omega⟩
 have c1:=Bk u.head 1 (G O T.tick) rfl;obtain⟨tb,ht⟩:=Ex (T.tb);obtain⟨m,hm⟩:=Ex (T.nodes.length);obtain⟨r,hr⟩:=Ex (Lp T.pl x.n);obtain⟨tk,t⟩:=Ex (T.tick);rw[<-hr,<-ht];rw[<-ht,<-hm]at c3;rw[<-ht,<-t]at c1;rw[<-ht]at ap
 have a:r=if (m:Int)<=x.n.node then 142
   else if x.n.kind=8\/x.n.kind=9 then(if x.n.tick<tk then 141 else if (Td T.nodes x.n.node).up≠decide (x.n.kind=8)then 100 else 0)
   else if x.n.kind=10\/x.n.kind=11 then(if (Td T.nodes x.n.node).bq≠decide (x.n.kind=11)then 100 else 0)else 0:=by rw[hr,hm,t];rfl
 obtain⟨⟨kd,ep,et,cl,sq,jn,an,nn,hw⟩,aM,sn,sc,di⟩:=x;simp only at hn hk a;have e0:=Bk p 0 (G O kd) rfl;have e2:=Bk p 2 (G O et) rfl;have e7:=Bk p 7 (G O nn) rfl;by_cases q:(m:Int)<=nn
 .rw [Ad q]at a;subst a;replace⟨h,u,p,ac,ht,hm,hr,t⟩:=H8 h u p ac ht hm hr t;replace⟨hk,b0,af⟩:=H3 hk b0 af;go_enter func59,ntmps59;go_upto_region 1 with fail;rw[<-s];clear s;go_quiet (fail);rename_i nq;have l:=b0.trans ((Ba _ W0 nq).mono b0.size);replace l:=Hh l;go_wp2;go_ret;exact⟨rfl,l.out⟩
 .rw [Ac q]at a;obtain⟨k,rfl⟩:∃k:Nat,nn=(k:Int):=⟨nn.toNat,ao9⟩;have aL:(k:Int)<m:=ao9
  obtain⟨g,aJ,o,am,_⟩:=u.zm ao9;have e1:so=Z ⟨g,0,I⟩:=by have:=ac.symm.trans o;injection this
  subst e1;obtain⟨nd,ad⟩:=Ge T.nodes k ao9;obtain⟨n0,n1,n2,_⟩:=u.pw ad o;have ao:Td T.nodes (k:Int)=nd:=by unfold Td;rw[Ki,ad];rfl
  rw[ao]at a;obtain⟨up,dr,si⟩:=nd;simp only at a n0 n1 n2;clear am;have aC:g<W0.heap.size:=by obtain⟨_,hc,_⟩:=C8 u.nodes (g:=g) (by rw[o];rfl);exact Ab hc
  replace⟨h,u,p,ac,ht,hm,hr,t⟩:=H8 h u p ac ht hm hr t;replace⟨b0,o,ad,ao⟩:=H4 b0 o ad ao;go_enter func59,ntmps59;go_upto_region 1 with fail;rw[<-s];clear s;go_quiet (fail);rename_i nq;go_upto_region 3 with fail;obtain⟨d,c⟩:=Ex (W0.drewN nq);have aA:d.cell? ⟨w.heap.size,0,I⟩=Z (G O kd):=by rw[c];exact e0
  have aB:d.cell? ⟨w.heap.size,2,I⟩=Z (G O et):=by rw[c];exact e2
  have aF:d.cell? ⟨w.heap.size,7,I⟩=Z (G O k):=by rw[c];exact e7
  have av:d.cell? ⟨tb,1,I⟩=Z (G O tk):=by rw[c];exact c1
  have am:d.cell? ⟨tb,3,I⟩=Z (J (Z ⟨g,0,I⟩) m cap):=by rw[c];exact c3
  have aG:d.cell? ⟨g,k*3,I⟩=Z (D up):=by rw[c];exact n0
  have aH:d.cell? ⟨g,k*3+1,I⟩=Z (D dr):=by rw[c];exact n1
  have aI:d.cell? ⟨g,k*3+2,I⟩=Z (G O si):=by rw[c];exact n2
  have z:w.heap.size<d.heap.size:=by rw[c];exact aE
  have al:tb<d.heap.size:=by rw[c];exact ap
  have aD:g<d.heap.size:=by rw[c];exact aC
  have l:BW w.heap.size w d:=by rw[c];exact b0.trans ((Ba _ W0 nq).mono b0.size)
  rw[<-c];replace l:=Hh l;clear c e0 e2 e7 c1 c3 n0 n1 n2 aE ap aC;go_region;obtain⟨W3,v⟩:=Ex ((d.alloc (V #[D up,D dr,G O si] 119)).drew);have f:BW d.heap.size d W3:=by rw[v];exact Bn.trans ⟨rfl,rfl,rfl,Nat.le_refl _,λ_ _=>rfl⟩
  have y:=l.trans (f.mono l.size);have e0:=(Bs (w:=d) (f.block _ z)).trans aA;have e2:=(Bs (w:=d) (f.block _ z)).trans aB;have c1:=(Bs (w:=d) (f.block _ al)).trans av;have x0:W3.cell? ⟨d.heap.size,0,I⟩=Z (D up):=by rw[v];exact Aa (w:=(d.alloc (V #[D up,D dr,G O si] 119)).drew) (Ah d _) 0
  have x1:W3.cell? ⟨d.heap.size,1,I⟩=Z (D dr):=by rw[v];exact Aa (w:=(d.alloc (V #[D up,D dr,G O si] 119)).drew) (Ah d _) 1
  rw[<-v];replace⟨f,y⟩:=H2 f y;clear v aA aB aF av am aG aH aI z al aD;have i:=λn=>y.trans ((Ba _ W3 n).mono y.size);have j:=y.out;replace⟨i,j⟩:=H2 i j;rcases hk with rfl|rfl|rfl|rfl
  .by_cases qt:et<tk
   .have b:r=141:=(by rw[a];simp[qt]);replace a:=Hh a;subst b;go_wp2;go_quiet (fail);go_wp2;go_ret;exact⟨rfl,i _⟩
   .cases up
    all_goals
     have b:r=_:=a;simp[qt]at b;replace a:=Hh a;subst b;go_wp2;go_quiet (fail);go_wp2;go_ret;exact⟨rfl,i _⟩
  .by_cases qt:et<tk
   .have b:r=141:=(by rw[a];simp[qt]);replace a:=Hh a;subst b;go_wp2;go_quiet (fail);go_wp2;go_ret;exact⟨rfl,i _⟩
   .cases up
    all_goals
     have b:r=_:=a;simp[qt]at b;replace a:=Hh a;subst b;go_wp2;go_quiet (fail);go_wp2;go_ret;exact⟨rfl,i _⟩
  .cases dr
   all_goals
    have b:r=_:=a;simp at b;replace a:=Hh a;subst b;go_wp2;go_ret;exact⟨rfl,j.out⟩
  .cases dr
   all_goals
    have b:r=_:=a;simp at b;replace a:=Hh a;subst b;go_wp2;go_ret;exact⟨rfl,j.out⟩
def Tg {B:Nat}  (h:BW B w w'):(∀k o,k<B->w'.cell? ⟨k,o,I⟩=w.cell? ⟨k,o,I⟩)/\(∀k o,k<B->w'.frozen? ⟨k,o,I⟩=w.frozen? ⟨k,o,I⟩):=
 ⟨λk o a=>Bs (h.block k a),λk o a=>by simp only[World.frozen?,h.block k a]⟩
def Al1   (x:de) (h:An w T) (hn:1<=x.n.bt) :
  CS prog 60 #[Q (Z ⟨T.tb,0,I⟩),x.val] w (Il w (J7 T.pl x.n)):=by
 obtain⟨a,s⟩:=Ex (w.alloc (V x.cells 40 (0,0)));have l:BW w.heap.size w a:=by rw[s];exact Bn
 have hA:=h.low l;have f:a.heap[w.heap.size]?=Z (V x.cells 40 (0,0)):=by rw[s];exact Ah _ _
 have aG:=Ab f
 obtain⟨so,cap,t,c4,al⟩:∃so cap,T.jv=J so T.js.length cap/\a.cell? ⟨T.tb,4,I⟩=Z (J so T.js.length cap)/\T.js.length<=9223372036854775807:=by
  rcases hA.ab.2 with⟨e,h0⟩|⟨g,cap,aT,e,_,_,h1,h2,_⟩
  .exact ⟨I,0,by rw[e,h0],by rw[Aa hA.head 4,h0,<-e];rfl,ao9⟩
  .exact ⟨_,_,e,by rw[Aa hA.head 4,<-e];rfl,by unfold maxLen at h2;omega⟩
 obtain⟨tb,ht⟩:=Ex (T.tb);obtain⟨m,hm⟩:=Ex (T.js.length);obtain⟨r,hr⟩:=Ex (J7 T.pl x.n);rw[<-hr,<-ht];rw[<-ht,<-hm]at c4;rw[<-hm]at al t;have c:r=if (m:Int)<x.n.bt then 90 else if x.n.kind≠7 then(A3 (F5 T.pl.ab x.n.bt).lf (Gh x.n.kind)).2 else if Gt (F5 T.pl.ab x.n.bt) x.n.attempt x.n.node=I then 100 else 0:=by rw[hr,hm];unfold J7;simp[Tv.pl]
 obtain⟨⟨kd,ep,et,cl,sq,jn,an,nn,hw⟩,aX,sn,sc,di⟩:=x;simp only at hn c;have e0:=Bk f 0 (G O kd) rfl;have e5:=Bk f 5 (G O jn) rfl;have e6:=Bk f 6 (G O an) rfl;have e7:=Bk f 7 (G O nn) rfl;by_cases q:(m:Int)<jn
 .rw [Ad q]at c;subst c;replace⟨h,hA,f,t,ht,hm,hr,l⟩:=H8 h hA f t ht hm hr l;replace al:=Hh al;go_enter func60,ntmps60;go_upto_region 1 with fail;rw[<-s];clear s;go_quiet (fail);rename_i nq;have ap:=l.trans ((Ba _ a nq).mono l.size);replace ap:=Hh ap;go_wp2;go_ret;exact⟨rfl,ap.out⟩
 .rw [Ac q]at c;obtain⟨k,rfl⟩:∃k:Nat,jn=(k:Int)+1:=⟨(jn-1).toNat,ao9⟩;have aV:(k:Int)<m:=ao9
  have aU:(0:Int)<=(k:Int):=ao9
  obtain⟨j,hj⟩:=Ge T.js k ao9;obtain⟨g,aN,_,cj,_,u⟩:=hA.lh hj;have e1:so=Z ⟨g,0,I⟩:=by have:=t.symm.trans u;injection this
  subst e1;obtain⟨b,z⟩:=j;have i:=Ai hj;have af:F5 T.pl.ab ((k:Int)+1)=z.pl:=by unfold F5;rw[show((k:Int)+1-1).toNat=k by omega];simp[Tv.pl,hj]
  rw[af]at c;simp only at cj;have d:=hA.box _ i;have am:=(hA.ok _ i).parts;have kp:∀W,BW a.heap.size a W->CS prog 102 #[Q (Z ⟨b,0,I⟩),G O an,G O nn] W (Aic z an nn W):=λW hW=>Aid (Ae hW d (Ab d)) (Bv.low am hW) an nn;by_cases q7:kd=7
  .subst q7;rw[Ac as9]at c;replace⟨h,hA,f,t,ht,hm,hr,l⟩:=H8 h hA f t ht hm hr l;replace⟨u,hj,i,af,d,am,kp,c⟩:=H8 u hj i af d am kp c;go_enter func60,ntmps60;go_upto_region 1 with fail;rw[<-s];clear s;go_quiet (fail);rename_i nq;go_upto_region 3 with fail;go_quiet (fail);rename_i aH;go_wp2_with fail;refine(kp _ (Ba _ a _)).mono ?_;rintro e w1 ⟨rfl,hq⟩;have ac:=λn=>l.trans ((Ba _ a n).mono l.size);rcases hq with⟨aA,rfl⟩|⟨k2,pb,aD,_,_,rfl⟩
   .have aB:r=100:=(by rw[c.out,Ad aA]);replace⟨ac,aA⟩:=H2 ac aA;subst aB;go_wp2;go_ret;exact⟨rfl,ac _⟩
   .have aB:r=0:=(by rw[c.out,Ac (by rw[aD];simp)]);replace⟨ac,aD⟩:=H2 ac aD;subst aB;go_wp2;go_ret;exact⟨rfl,ac _⟩
  .rw [Ad q7]at c;have aI:=Bk d 14 (G O z.pl.lf.st) rfl;have aJ:=Bk d 15 (G O z.pl.lf.bp) rfl;have aK:=Bk d 16 (G O z.pl.lf.left) rfl;have aL:=Bk d 17 (D z.pl.lf.wall) rfl;have aM:=Bk d 18 (D z.pl.lf.stop) rfl
   have ao:1<=Gh kd/\Gh kd<=8:=by unfold Gh;split<;>(try split)<;>omega
   have ks:=λW=>Aib kd W;obtain⟨sg,aC⟩:=Ex (Gh kd);rw[<-aC]at ks ao c;have kx:=λW=>Ahw z.pl.lf sg W ao;obtain⟨⟨l1,r1⟩,av⟩:∃p,p=A3 z.pl.lf sg:=⟨_,rfl⟩;rw[<-av]at kx c;simp only at kx c;subst c;replace⟨h,hA,f,t,ht,hm,hr,l⟩:=H8 h hA f t ht hm hr l;replace⟨u,hj,i,af,d,am,kp,ao⟩:=H8 u hj i af d am kp ao;replace⟨aC,av,ks,kx⟩:=H4 aC av ks kx;go_enter func60,ntmps60;go_upto_region 1 with fail;rw[<-s];clear s;go_quiet (fail);rename_i nq;go_upto_region 3 with fail;go_quiet (fail);rename_i aH;have aY:∀n,((a.drewN n).alloc (V #[G O 0,G O 0,G O 0,D false,D false] 43)).cell? ⟨a.heap.size,0,I⟩=Z (G O 0):=λn=>Aa (w:=(a.drewN n).alloc (V #[G O 0,G O 0,G O 0,D false,D false] 43)) (Ah (a.drewN n) _) 0;have aZ:∀n,((a.drewN n).alloc (V #[G O 0,G O 0,G O 0,D false,D false] 43)).cell? ⟨a.heap.size,1,I⟩=Z (G O 0):=λn=>Aa (w:=(a.drewN n).alloc (V #[G O 0,G O 0,G O 0,D false,D false] 43)) (Ah (a.drewN n) _) 1;have a0:∀n,((a.drewN n).alloc (V #[G O 0,G O 0,G O 0,D false,D false] 43)).cell? ⟨a.heap.size,2,I⟩=Z (G O 0):=λn=>Aa (w:=(a.drewN n).alloc (V #[G O 0,G O 0,G O 0,D false,D false] 43)) (Ah (a.drewN n) _) 2;have a1:∀n,((a.drewN n).alloc (V #[G O 0,G O 0,G O 0,D false,D false] 43)).cell? ⟨a.heap.size,3,I⟩=Z (D false):=λn=>Aa (w:=(a.drewN n).alloc (V #[G O 0,G O 0,G O 0,D false,D false] 43)) (Ah (a.drewN n) _) 3;have a2:∀n,((a.drewN n).alloc (V #[G O 0,G O 0,G O 0,D false,D false] 43)).cell? ⟨a.heap.size,4,I⟩=Z (D false):=λn=>Aa (w:=(a.drewN n).alloc (V #[G O 0,G O 0,G O 0,D false,D false] 43)) (Ah (a.drewN n) _) 4;have zf:∀n o,((a.drewN n).alloc (V #[G O 0,G O 0,G O 0,D false,D false] 43)).frozen? ⟨a.heap.size,o,I⟩=false:=λn=>Af (w:=(a.drewN n).alloc (V #[G O 0,G O 0,G O 0,D false,D false] 43)) (Ah (a.drewN n) _);have y:=λn=>l.trans ((Ba _ a n).mono l.size);replace y:=Hh y;have ad:=Ab d.out;have ze:∀n,((a.drewN n).alloc (V #[G O 0,G O 0,G O 0,D false,D false] 43)).cell? ⟨w.heap.size,0,I⟩=Z (G O kd):=λn=>(Bs (w:=a) (((Ba _ a n).alloc Ln _).block _ aG)).trans e0;have aO:∀n,((a.drewN n).alloc (V #[G O 0,G O 0,G O 0,D false,D false] 43)).cell? ⟨b,14,I⟩=Z (G O z.pl.lf.st):=λn=>(Bs (w:=a) (((Ba _ a n).alloc Ln _).block _ ad)).trans aI;have aP:∀n,((a.drewN n).alloc (V #[G O 0,G O 0,G O 0,D false,D false] 43)).cell? ⟨b,15,I⟩=Z (G O z.pl.lf.bp):=λn=>(Bs (w:=a) (((Ba _ a n).alloc Ln _).block _ ad)).trans aJ;have aQ:∀n,((a.drewN n).alloc (V #[G O 0,G O 0,G O 0,D false,D false] 43)).cell? ⟨b,16,I⟩=Z (G O z.pl.lf.left):=λn=>(Bs (w:=a) (((Ba _ a n).alloc Ln _).block _ ad)).trans aK;have aR:∀n,((a.drewN n).alloc (V #[G O 0,G O 0,G O 0,D false,D false] 43)).cell? ⟨b,17,I⟩=Z (D z.pl.lf.wall):=λn=>(Bs (w:=a) (((Ba _ a n).alloc Ln _).block _ ad)).trans aL;have aS:∀n,((a.drewN n).alloc (V #[G O 0,G O 0,G O 0,D false,D false] 43)).cell? ⟨b,18,I⟩=Z (D z.pl.lf.stop):=λn=>(Bs (w:=a) (((Ba _ a n).alloc Ln _).block _ ad)).trans aM;go_upto_region 5 with fail;go_region_law
    (first
      | (go_simp;go_at_call 101;refine(ks _).mono ?_
         rintro e w1 ⟨rfl,rfl⟩)
      | (go_simp;go_at_call 100;refine(kx _).mono ?_;rintro e w2 ⟨rfl,v⟩;have s2:=v.size;obtain⟨aE,aF⟩:=Tg v
         (try simp at s2)
         (try simp at aE)
         (try simp at aF)
         (try have aW:a.heap.size<w2.heap.size:=by omega)
         replace v:=Hh v))
   all_goals
    go_wp2;go_ret;refine⟨rfl,?_⟩
    first
     | exact((y _).trans (v.mono (y _).size)).alloc (Ay (y _).size v.size) _
     | exact D1 (D1 (D1 (D1 (D1 (((y _).alloc (y _).size _).trans (v.mono (by have:=l.size;simp;omega))) l.size) l.size) l.size) l.size) l.size
structure py (w:WD) (u v:V4) (b:fj) (wr:WD):Prop where
 low:BW w.heap.size w wr
 b1:wr.heap[w.heap.size]?=Z (V u.cells 30 (0,0))
 b2:wr.heap[w.heap.size+1]?=Z (V v.cells 30 (0,0))
 res:wr.heap[w.heap.size+2]?=Z (V #[G O 0,G O 0] 333 (0,0))
 oz:wr.heap[w.heap.size+3]?=Z (V #[G O b.1,G O b.2] 333 (0,0))
def py.next   {b:fj} (h:py w u v b wr) (a:BW wr.heap.size wr w'):py w u v b w':=
 ⟨h.low.trans (a.mono h.low.size),Ae a h.b1 (Ab h.b1),Ae a h.b2 (Ab h.b2),Ae a h.res (Ab h.res),Ae a h.oz (Ab h.oz)⟩
def py.set   {b:fj} (h:py w u v b wr) (x y:Int):py w u v (x,y) ((wr.setCell ⟨w.heap.size+3,0,I⟩ (G O x)).setCell ⟨w.heap.size+3,1,I⟩ (G O y)):=
 ⟨Cc (Cc h.low ao9) ao9,(Cm _ _ _ _ (λe=>by simp at e)).trans ((Cm _ _ _ _ (λe=>by simp at e)).trans h.b1),(Cm _ _ _ _ (λe=>by simp at e)).trans ((Cm _ _ _ _ (λe=>by simp at e)).trans h.b2),(Cm _ _ _ _ (λe=>by simp at e)).trans ((Cm _ _ _ _ (λe=>by simp at e)).trans h.res),by
  have:=Am (Am h.oz 0 (G O x)) 1 (G O y)
  simpa using this⟩
structure yl (w:WD) (u v:V4) (b p:fj) (pv:Value) (wr:WD):Prop where
 dw:py w u v b wr
 box:∃g,pv=Q (Z ⟨g,0,I⟩)/\wr.heap[g]?=Z (V #[G O p.1,G O p.2] 333 (0,0))/\w.heap.size+3<g
def py.s1   {b:fj} {a c:Int} (h:py w u v b wr) (d:BW wr.drew.heap.size wr.drew w1):yl w u v b (a,c) (Q (Z ⟨w1.heap.size,0,I⟩)) (w1.alloc (V #[G O a,G O c] 333)):=by
 have h0:=h.next (Ba wr.heap.size wr 1);have h1:=h0.next d;have e:=Ab h1.oz;exact⟨h1.next Bn,_,rfl,Ah _ _,e⟩
def py.s2   {b:fj} {c d:Int} (h:py w u v b wr) (g:BW (wr.alloc (V #[G O 0,G O 0] 333)).drew.heap.size (wr.alloc (V #[G O 0,G O 0] 333)).drew w1) :
  yl w u v b (c,d) (Q (Z ⟨wr.heap.size,0,I⟩)) ((w1.setCell ⟨wr.heap.size,0,I⟩ (G O c)).setCell ⟨wr.heap.size,1,I⟩ (G O d)):=by
 have e:BW wr.heap.size wr (wr.alloc (V #[G O 0,G O 0] 333)).drew:=Bn.drew;have f:=e.trans (g.mono as9);have j:=Ae g (Ah _ _) as9;have i:=Ab h.oz;have a:BW wr.heap.size wr ((w1.setCell ⟨wr.heap.size,0,I⟩ (G O c)).setCell ⟨wr.heap.size,1,I⟩ (G O d)):=Cc (Cc f Ln) Ln;refine⟨h.next a,_,rfl,?_,i⟩;have:=Am (Am j 0 (G O c)) 1 (G O d);simpa using this
def O2 (v:V4):Prop:=∀d,d<4->v.get d<=9223372036854775807
def Zv {u v:V4} (h1:O2 u) (c:O2 v):∀d,d<=4->(Fg u v d).1.1<=9223372036854775807/\(Fg u v d).1.2<=9223372036854775807
 | 0,_=>by simp[Fg]
 | d+1,hd=>by
  have h:=Zv h1 c d ao9;have a:=h1 d ao9;have b:=c d ao9;unfold Fg;split
  .simp only[Es];omega
  .exact h
def Azn (u v:V4) (w:WD) (h1:O2 u) (h2:O2 v):CS prog 250 #[u.val,v.val] w λe w'=>e=K (E #[Rp (Fg u v 4).1,G O (Fg u v 4).2])/\BW w.heap.size w w':=by
 obtain⟨W0,ad⟩:=Ex ((((w.alloc (V u.cells 30)).alloc (V v.cells 30)).alloc (V #[G O 0,G O 0] 333)).alloc (V #[G O 0,G O 0] 333));have ac:py w u v (0,0) W0:=by rw[ad];exact⟨((Bn.alloc as9 _).alloc (by simp;omega) _).alloc (by simp;omega) _,Aj _ (Aj _ (Aj _ (Ah _ _))),Aj _ (Aj _ (A5 _ _ as9)),Aj _ (A5 _ _ as9),A5 _ _ as9⟩
 replace⟨ac,h1,h2⟩:=H3 ac h1 h2;go_enter func250,ntmps250;go_upto_region 2 with fail;rw[<-ad];clear ad;go_wp2_with fail;go_loopw [7,8,9,11] (λav _ _ iv wr=>∃(d:Nat),iv=G O d/\d<=4/\av=G O (Fg u v d).2/\Hid (py w u v (Fg u v d).1 wr)) (λ_ _ _ iv _=>4-(intOf iv).toNat)
 case atStart=>exact⟨0,rfl,ao9,rfl,ac⟩
 case round=>
  obtain⟨d,rfl,ap,rfl,l⟩:=hrel;obtain⟨k,b⟩:=Ex ((Fg u v d).1);obtain⟨at_,j⟩:=Ex ((Fg u v d).2);have f:=Zv h1.out h2.out d ap;rw[<-b]at l f;rw[<-j];by_cases r:d<4
  .have aF:(d:Int)<4:=ao9;have aG:(0:Int)<=(d:Int):=ao9;have af:=h1 d r;have al:=h2 d r;obtain⟨x,hx⟩:=Ex (u.get d);obtain⟨y,hy⟩:=Ex (v.get d);have u0:=hx▸Vw l.b1 r;have v0:=hy▸Vw l.b2 r;have t:Fg u v (d+1)=if d=0\/0<Gg (Es (x,y)) k then(Es (x,y),(d:Int))else(k,at_):=(by rw[hx,hy,b,j];rfl);rw[<-hx]at af;rw[<-hy]at al;have kp:=λW=>Add (x,y) W;obtain⟨⟨m,n⟩,hp⟩:∃p,p=Es (x,y):=⟨_,rfl⟩;rw[<-hp]at kp t;replace kp:∀W,CS prog 293 #[.agg #[G O x,G O y]] W λe w'=>e=K (.agg #[G O m,G O n])/\BW W.heap.size W w':=kp;have z:m<=9223372036854775807/\n<=9223372036854775807:=(by have:=hp;simp only[Es,Sa]at this;omega);obtain⟨o,q⟩:=k;replace⟨b,j,f,af,al,hx,hy,t⟩:=H8 b j f af al hx hy t;replace⟨hp,z,kp⟩:=H3 hp z kp;go_upto_region 5 with fail;have aC:=Ab l.b1;have aD:=Ab l.b2;go_cut [9] (λpv wx=>yl w u v (o,q) (m,n) pv wx)
   case first=>
    go_region_law (first
     | (go_simp;go_at_call 293;refine(kp _).mono ?_;rintro e w1 ⟨rfl,a⟩;have s2:=a.size;obtain⟨an,aB⟩:=Tg a
        (try simp at s2)
        (try simp at an)
        (try simp at aB)
        (try have aJ:wr.heap.size<w1.heap.size:=by omega)
        replace a:=Hh a))
    all_goals
     go_wp2_with fail;go_meet
     first
      | exact l.s1 a.out
      | exact l.s2 a.out
   case rest=>
    obtain⟨i,g,rfl,hg,am⟩:=hcut;have d0:=Bk hg 0 (G O m) rfl;have d1:=Bk hg 1 (G O n) rfl;have e0:=Bk i.oz 0 (G O o) rfl;have e1:=Bk i.oz 1 (G O q) rfl;have fe:=Af i.oz;have kc:∀W,CS prog 251 #[.agg #[G O m,G O n],.agg #[G O o,G O q]] W λe w'=>e=K (G O (Gg (m,n) (o,q)))/\BW W.heap.size W w':=λW=>Ak2 (m,n) (o,q) W z.1 z.2 f.1 f.2;obtain⟨cv,s⟩:=Ex (Gg (m,n) (o,q));rw[<-s]at kc;have h:Fg u v (d+1)=if d=0\/0<cv then((m,n),(d:Int))else((o,q),at_):=(by rw[t.out,s]);clear u0 v0 aC aD;replace⟨i,hg,am,kc,s,h⟩:=H6 i hg am kc s h;by_cases ao:d=0
    .subst ao;have c:Fg u v 1=((m,n),(0:Int)):=(by rw[h.out,Ad (.inl rfl)];rfl);replace c:=Hh c;go_wp2_with fail;go_roundw
     case rel=>exact⟨1,rfl,ao9,by rw[c.out];rfl,Hh (by rw[c.out];exact i.set m n)⟩
     case measure=>simp[intOf]
    .have aH:((d:Int) == 0)=false:=(by simp;omega);have aI:¬(d:Int)=0:=ao9;by_cases aE:0<cv
     .have c:Fg u v (d+1)=((m,n),(d:Int)):=(by rw[h.out,Ad (.inr aE)]);replace c:=Hh c;go_wp2_with (go_at_call 251;(with_reducible refine(kc.out _).mono ?_);rintro e w1 ⟨rfl,a⟩;have d0:=(Ag a (Ab hg.out)).trans d0;have d1:=(Ag a (Ab hg.out)).trans d1;have e0:=(Ag a (Ab i.oz)).trans e0;have e1:=(Ag a (Ab i.oz)).trans e1;have fe:=Af (Ae a i.oz (Ab i.oz));replace i:=Hh (i.next a);replace a:=Hh a);go_roundw
      case rel=>exact⟨d+1,by go_num,ao9,by rw[c.out],Hh (by rw[c.out];exact i.set m n)⟩
      case measure=>simp[intOf];omega
     .have c:Fg u v (d+1)=((o,q),at_):=(by rw[h.out,Ac ao9]);replace c:=Hh c;go_wp2_with (go_at_call 251;(with_reducible refine(kc.out _).mono ?_);rintro e w1 ⟨rfl,a⟩;replace i:=Hh (i.next a);replace a:=Hh a);go_roundw
      case rel=>exact⟨d+1,by go_num,ao9,by rw[c.out],Hh (by rw[c.out];exact i.out)⟩
      case measure=>simp[intOf];omega
  .have aA:d=4:=ao9;subst aA;obtain⟨o,q⟩:=k;have u0:=Bk l.oz 0 (G O o) rfl;have u1:=Bk l.oz 1 (G O q) rfl;have r0:=Bk l.res 0 (G O 0) rfl;have r1:=Bk l.res 1 (G O 0) rfl;have fr:=Af l.res;replace⟨b,j,f⟩:=H3 b j f;go_wp2;refine Ak (v:=E #[.agg #[G O o,G O q],G O at_]) (by simp[results,results250,go_sem,r0,r1]) rfl ⟨by rw[<-b.out,<-j.out],?_⟩;exact Cc (Cc l.low ao9) ao9
def Ub (s:dm):Int:=min (max s.array 0) 50
def K1 (l:List dm):Int:=(l.map Ub).foldl (·+·) 0
def Jv (l:List ei):Int:=(l.map λe=>K1 e.specs).foldl (·+·) 0
structure Am9 (es:List ei):Prop where
 len:es.length<=60
 sum:Jv es<=16
def Z4 (es:List ei) (w:WD) (e:Ending) (w':WD):Prop:=∃b:Bool,e=K (D b)/\(b=true->Am9 es)/\BW w.heap.size w w'
def Ana (l:List Int) (x:Int):(l++[x]).foldl (·+·) 0=l.foldl (·+·) 0+x:=by rw[L8];rfl
def A16 (l:List dm) (s:dm):K1 (l++[s])=K1 l+Ub s:=by unfold K1;rw[C2];exact Ana _ _
def Anb (l:List ei) (e:ei):Jv (l++[e])=Jv l+K1 e.specs:=by unfold Jv;rw[C2];exact Ana _ _
def A17 (s:dm):0<=Ub s/\Ub s<=50:=by unfold Ub;omega
structure yp (w:WD) (es:List ei) (i:Nat) (n:Int) (wr:WD):Prop where
 low:BW w.heap.size w wr
 sum:n=Jv (es.take i)
 bd:0<=n/\n<=16
structure yo (w:WD) (es:List ei) (sp:List dm) (i k:Nat) (n:Int) (wr:WD):Prop where
 low:BW w.heap.size w wr
 sum:n=Jv (es.take i)+K1 (sp.take k)
 bd:0<=n/\n<=16+50*(k:Int)
def Aef  (so:Option Addr) (m c:Nat) (xs:List de) (h:Qh w so m xs) :
  CS prog 19 #[J so m c] w (Z4 (xs.map de.pl) w):=by
 have hl:=h.len;obtain⟨p,q⟩:=Ex (xs.map de.pl);have u:p.length=m:=by rw[q,Ar,hl]
 rw[<-q];by_cases hm:60<m
 .have d1:decide ((60:Int)<(m:Int))=true:=At ao9;have hp:Z4 p w (K (D false)) w:=⟨false,rfl,λc=>(by cases c),Below.refl _ _⟩;replace⟨h,hl,q,u,hp⟩:=H5 h hl q u hp;go_enter func19,ntmps19;go_wp2_with fail;go_ret;exact hp.out
 .have d1:decide ((60:Int)<(m:Int))=false:=Au ao9;have aK:yp w p 0 0 w:=⟨Below.refl _ _,by simp[Jv],ao9⟩;replace⟨h,hl,q,u,aK⟩:=H5 h hl q u aK;go_enter func19,ntmps19;go_wp2_with fail;go_loopw [3,4,5,6] (λnv iv _ _ wr=>∃(i:Nat) (n:Int),nv=G O n/\iv=G O i/\i<=m/\Hid (yp w p i n wr)) (λ_ iv _ _ _=>m-(intOf iv).toNat)
  case atStart=>exact⟨0,0,rfl,rfl,As _,aK⟩
  case round=>
   rename WD=>wo
   obtain⟨i,n,rfl,rfl,hi,hS⟩:=hrel;by_cases hc:i<m
   .have aV:(i:Int)<m:=ao9;have a2:(0:Int)<=(i:Int):=ao9;obtain⟨x,hx⟩:=Ge xs i (by have:=hl.out;omega);obtain⟨b,aX,rfl,aN,aM,aR⟩:=h.cell i x hx
    have an:p.take (i+1)=p.take i++[x.pl]:=by
     have:p[i]?=Z x.pl:=by rw[q.out,Bg,hx];rfl
     exact Je this
    obtain⟨en,aS,z,ec,aG⟩:=x;obtain⟨sl,am⟩:=Ex (aG.map ay.pl);have aC:∀W:WD,BW w.heap.size w W->W.cell? ⟨b,aX+i*10+9,I⟩=Z (J aS z ec):=λW hW=>(Ag hW aN).trans (aM 9 ao9);have an:p.take (i+1)=p.take i++[⟨en,sl⟩]:=(by rw[an,am];rfl);have aD:J6 w aS z aG:=aR.di;have s:=aD.len;have q9:=aC wo hS.low;replace⟨hx,aN,aM,aR,an,am,aC,aD⟩:=H8 hx aN aM aR an am aC aD;replace s:=Hh s;by_cases h8:8<z
    .have d8:decide ((8:Int)<(z:Int))=true:=At ao9;go_wp2_with fail;go_ret;exact⟨false,rfl,λc=>(by cases c),hS.low⟩
    .have d8:decide ((8:Int)<(z:Int))=false:=Au ao9;have aI:yo w p sl i 0 n wo:=⟨hS.low,by rw[hS.sum];simp[K1],by have:=hS.bd;omega⟩;replace aI:=Hh aI;go_wp2_with fail;clear q9;go_loopw [3,5,6] (λnv kv _ wr=>∃(k:Nat) (n2:Int),nv=G O n2/\kv=G O k/\k<=z/\Hid (yo w p sl i k n2 wr)) (λ_ kv _ _=>z-(intOf kv).toNat)
     case atStart=>exact⟨0,n,rfl,rfl,As _,aI⟩
     case round=>
      obtain⟨k,n2,rfl,rfl,hk,hV⟩:=hrel;have q9:=aC _ hV.low;by_cases a1:k<z
      .have aW:(k:Int)<z:=ao9;have a3:(0:Int)<=(k:Int):=ao9;obtain⟨y,hy⟩:=Ge aG k (by have:=s.out;omega);obtain⟨t,a,rfl,al,ad,aT⟩:=aD.cell k y hy;have d:=λj hj=>(Ag hV.low al).trans (ad j hj)
       have ao:sl.take (k+1)=sl.take k++[y.pl]:=by
        have:sl[k]?=Z y.pl:=by rw[am.out,Bg,hy];rfl
        exact Je this
       obtain⟨⟨f,e,nodes,⟨da,db,dc,dd⟩,aA,av,array,ae,af,after⟩,aF,sn,aE⟩:=y;have z0:wr.cell? ⟨t,a+k*13,I⟩=Z (Y f):=d 0 ao9;have z1:wr.cell? ⟨t,a+k*13+1,I⟩=Z (Y e):=d 1 ao9;have z2:wr.cell? ⟨t,a+k*13+2,I⟩=Z (G O nodes):=d 2 ao9;have z3:wr.cell? ⟨t,a+k*13+3,I⟩=Z (G O da):=d 3 ao9;have z4:wr.cell? ⟨t,a+k*13+4,I⟩=Z (G O db):=d 4 ao9;have z5:wr.cell? ⟨t,a+k*13+5,I⟩=Z (G O dc):=d 5 ao9;have z6:wr.cell? ⟨t,a+k*13+6,I⟩=Z (G O dd):=d 6 ao9;have z7:wr.cell? ⟨t,a+k*13+7,I⟩=Z (G O aA):=d 7 ao9;have z8:wr.cell? ⟨t,a+k*13+8,I⟩=Z (G O av):=d 8 ao9;have z9:wr.cell? ⟨t,a+k*13+9,I⟩=Z (G O array):=d 9 ao9;have aY:wr.cell? ⟨t,a+k*13+10,I⟩=Z (G O ae):=d 10 ao9;have aZ:wr.cell? ⟨t,a+k*13+11,I⟩=Z (D af):=d 11 ao9;have a0:wr.cell? ⟨t,a+k*13+12,I⟩=Z (J aF sn aE):=d 12 ao9;replace⟨ad,d,al,aT,ao,hy⟩:=H6 ad d al aT ao hy;go_upto_region 13 with fail;clear z0 z1 z2 z3 z4 z5 z6 z7 z8 z9 aY aZ a0;obtain⟨nb,aP⟩:=Ex (wr.heap.size);obtain⟨W1,aB⟩:=Ex (wr.alloc (V (⟨⟨f,e,nodes,⟨da,db,dc,dd⟩,aA,av,array,ae,af,after⟩,aF,sn,aE⟩:ay).cells 33 (0,0)));have aL:BW wr.heap.size wr W1:=(by rw[aB];exact Bn);have v:W1.heap[nb]?=Z (V (⟨⟨f,e,nodes,⟨da,db,dc,dd⟩,aA,av,array,ae,af,after⟩,aF,sn,aE⟩:ay).cells 33 (0,0)):=(by rw[aB,aP];exact Ah _ _);rw[<-aB,<-aP];clear aB aP q9;have l:=hV.low.trans (aL.mono hV.low.size);have p0:=Bk v 0 (Y f) rfl;have p1:=Bk v 1 (Y e) rfl;have p9:=Bk v 9 (G O array) rfl;have a6:=Bk v 12 (J aF sn aE) rfl;have o:Z4 p w (K (D false)) W1:=⟨false,rfl,λc=>(by cases c),l⟩;replace⟨aL,v,l,o⟩:=H4 aL v l o;by_cases g1:20<sn
       .have e1:decide ((20:Int)<(sn:Int))=true:=At ao9;go_wp2_with fail;go_ret;exact o.out
       have e1:decide ((20:Int)<(sn:Int))=false:=Au ao9;by_cases g2:100<f.size
       .have e2:decide ((100:Int)<(f.size:Int))=true:=At ao9;go_wp2_with fail;go_ret;exact o.out
       have e2:decide ((100:Int)<(f.size:Int))=false:=Au ao9;by_cases g3:100<e.size
       .have e3:decide ((100:Int)<(e.size:Int))=true:=At ao9;go_wp2_with fail;go_ret;exact o.out
       have e3:decide ((100:Int)<(e.size:Int))=false:=Au ao9;have aU:=hV.bd;have a5:IntKind.i64.wrap (n2+min (max array 0) 50)=n2+min (max array 0) 50:=Ig ao9 ao9
       have aJ:yo w p sl i (k+1) (n2+min (max array 0) 50) W1:=⟨l.out,by
        rw[ao.out,A16,hV.sum];show _+min (max array 0) 50=_+(_+min (max array 0) 50)
        omega,ao9⟩
       replace⟨aJ,aU⟩:=H2 aJ aU;go_wp2_with fail;go_roundw
       case rel=>exact⟨k+1,_,rfl,by go_num,ao9,aJ⟩
       case measure=>simp[intOf];omega
      .have aW:¬(k:Int)<z:=ao9;have a4:k=z:=ao9;have r:sl.take k=sl:=Cr (by rw[am.out,Ar,s.out];omega);have ap:n2=Jv (p.take (i+1)):=(by rw[an.out,Anb,hV.sum,r]);have ac:=hV.bd;replace⟨r,ap,ac⟩:=H3 r ap ac;by_cases g:16<n2
       .have e1:=At g;go_wp2_with fail;go_ret;exact⟨false,rfl,λc=>(by cases c),hV.low⟩
       .have e1:=Au g;have aH:yp w p (i+1) n2 wr:=⟨hV.low,ap.out,by have:=ac.out;omega⟩;replace aH:=Hh aH;go_wp2_with fail;go_roundw
        case rel=>exact⟨i+1,_,rfl,by go_num,ao9,aH⟩
        case measure=>simp[intOf];omega
   .have aV:¬(i:Int)<m:=ao9;have aQ:Am9 p:=(by have h1:=hS.sum;have h2:=hS.bd;rw[Cr (by rw[u.out];omega)]at h1;exact⟨by rw[u.out];omega,ao9⟩);have aO:=hS.low;replace⟨aQ,aO⟩:=H2 aQ aO;go_wp2_with fail;go_ret;exact⟨true,rfl,λ_=>aQ.out,aO.out⟩
def O5 (zs:List Int):List UInt8:=B7 zs.length++zB zs
def Anf (s:ByteArray):List UInt8:=B7 s.size++s.data.toList
def N7 (j:Jb):List UInt8:=Anf (au (Jg { j.sp with after:=[] }))++(O5 j.sp.after++(zB [j.lf.st,j.lf.bp,j.lf.left,Cq j.lf.wall,Cq j.lf.stop,j.start]++(O5 j.ak++O5 (j.parts.map Prod.snd))))
def Aei {zs:List Int} (h:I6 zs) (b:zs.length<=1000000):(O5 zs).length<=10+10*zs.length:=by
 have h1:=Kf zs h;have a:=Oo (n:=zs.length) ao9;unfold O5;rw[Az];omega
abbrev Aej (W:WD) (b:Nat) (y:ay):Prop:=W.cell? ⟨b,0,I⟩=Z (Y y.pl.user)/\W.cell? ⟨b,1,I⟩=Z (Y y.pl.part)/\W.cell? ⟨b,2,I⟩=Z (G O y.pl.nodes)/\W.cell? ⟨b,3,I⟩=Z (G O y.pl.df.a)/\W.cell? ⟨b,4,I⟩=Z (G O y.pl.df.b)/\W.cell? ⟨b,5,I⟩=Z (G O y.pl.df.c)/\W.cell? ⟨b,6,I⟩=Z (G O y.pl.df.d)/\W.cell? ⟨b,7,I⟩=Z (G O y.pl.wall)/\W.cell? ⟨b,8,I⟩=Z (G O y.pl.prio)/\W.cell? ⟨b,9,I⟩=Z (G O y.pl.array)/\W.cell? ⟨b,10,I⟩=Z (G O y.pl.ae)/\W.cell? ⟨b,11,I⟩=Z (D y.pl.held)/\W.cell? ⟨b,12,I⟩=Z (J y.so y.n y.c)
def A2g {W:WD} {b:Nat} {y:ay} (h:W.heap[b]?=Z (V y.cells 33 (0,0))):Aej W b y:=
 ⟨Aa h 0,Aa h 1,Aa h 2,Aa h 3,Aa h 4,Aa h 5,Aa h 6,Aa h 7,Aa h 8,Aa h 9,Aa h 10,Aa h 11,Aa h 12⟩
def A2h:(prog.info? 33).map (·.size)=Z 13:=by kernel_rfl
def A2i (x:ar) (j:Nat) (h:j<13):x.cells[1+j]?=(⟨x.pl.sp,x.so,x.sn,x.sc⟩:ay).cells.toList[j]?:=by
 rcases(show j=0\/j=1\/j=2\/j=3\/j=4\/j=5\/j=6\/j=7\/j=8\/j=9\/j=10\/j=11\/j=12 by omega)with rfl|rfl|rfl|rfl|rfl|rfl|rfl|rfl|rfl|rfl|rfl|rfl|rfl<;>rfl
def Wg (W:WD) (zs:List Int) (h:zs.length<=9223372036854775807):Ap (W.alloc (V (zs.map (Value.int O)).toArray 3 (0,0))) (Z ⟨W.heap.size,0,I⟩) zs.length zs:=
 ⟨rfl,h,λi z a=>⟨W.heap.size,0,rfl,as9,by
  rw[Cn,Aa (Ah W _) i]
  simp[a]⟩⟩
def A2j (so:Option Addr) (n c:Nat) (l:List UInt8) (t:Nat) (x:ar) (S:Nat->Prop) (w:WD) (hb:J5 w so n l) (hx:Bc w t x) (s:Np w S x) (ht:Tb w) (bP:Zt x)
  (hs:I6 x.pl.sp.after) (hg:I6 x.pl.ak) (hL:I6 [x.pl.lf.st,x.pl.lf.bp,x.pl.lf.left,Cq x.pl.lf.wall,Cq x.pl.lf.stop,x.pl.start]) (hp:I6 (x.pl.parts.map Prod.snd)) (bQ:(au (Jg { x.pl.sp with after:=[] })).size<=100000) (hn:n<=1000000000000) :
  CS prog 56 #[J so n c,Q (Z ⟨t,0,I⟩)] w λe w'=>∃v,e=K v/\fi w (l++N7 x.pl) v w':=by
 obtain⟨i3,bw,bF,aS,aT⟩:=B4 Md;have aQ:=Ji s.parts;obtain⟨b1,b2,b3⟩:=bP;have bM:=Ab hx;have bA:=hb.len;obtain⟨z,hz⟩:∃z:ay,z=⟨x.pl.sp,x.so,x.sn,x.sc⟩:=⟨_,rfl⟩;obtain⟨y,hy⟩:∃y:ay,y=⟨{ x.pl.sp with after:=[] },I,0,0⟩:=⟨_,rfl⟩;have bE:y.ok w:=by rw[hy];exact⟨U2 w,Nat.le_refl _,s.user,s.part⟩
 obtain⟨tx,al⟩:=Ex (au (Jg y.pl));have bU:tx.size<=100000:=by rw[al,hy];exact bQ
 have kt:∀W,BW w.heap.size w W->CS prog 95 #[y.val] W λe w'=>e=K (Y tx)/\BW W.heap.size W w':=λW hW=>by rw[al];exact Aq5 y W (bE.low hW) (ht.low hW)
 have am:∀W,BW w.heap.size w W->∀o,W.cell? ⟨t,o,I⟩=x.cells[o]?:=λW hW o=>Aa (Ae hW hx bM) o
 have a8:w.rangeAt t 1 z.cells.toList:=λj v hv=>by
  have hj:j<13:=(Aq.1 hv).1;rw[am w (Below.refl _ _) (1+j),<-hv,hz];exact A2i x j hj
 obtain⟨W2,aG⟩:=Ex (w.alloc (V #[Y z.pl.user,Y z.pl.part,G O z.pl.nodes,G O z.pl.df.a,G O z.pl.df.b,G O z.pl.df.c,G O z.pl.df.d,G O z.pl.wall,G O z.pl.prio,G O z.pl.array,G O z.pl.ae,D z.pl.held,J z.so z.n z.c] 33 (0,0)));have a0:BW w.heap.size w W2:=by rw[aG];exact Bn
 have aI:W2.heap[w.heap.size]?=Z (V z.cells 33 (0,0)):=by rw[aG];exact Ah _ _
 have bK:=Af aI 12;have bT:=Bk aI 12 (J z.so z.n z.c) rfl;have aR:(W2.setCell ⟨w.heap.size,12,I⟩ (J I 0 0)).heap[w.heap.size]?=Z (V y.cells 33 (0,0)):=by have h1:=Am aI 12 (J I 0 0);rw[hz]at h1;rw[hy];exact h1
 have m:=D1 (o:=12) (v:=J I 0 0) a0 (Nat.le_refl w.heap.size);replace⟨hb,hx,s,ht,hs,hg,hL,hp⟩:=H8 hb hx s ht hs hg hL hp;replace⟨aQ,bA,bE,al,kt,am,a8,hz⟩:=H8 aQ bA bE al kt am a8 hz;replace⟨hy,a0,aI,aG,aR,m,bw,bF⟩:=H8 hy a0 aI aG aR m bw bF;replace⟨aS,aT⟩:=H2 aS aT;go_enter func56,ntmps56;go_upto_region 1 with fail;go_upto_region 2 with(refine wpList_load_mid rfl 33 _ rfl t 1 rfl z.cells.toList _ a8.out underlying33 rfl A2h ?_);rw[<-aG.out];go_upto_region 3 with fail;obtain⟨W3,bn⟩:=Ex (W2.setCell ⟨w.heap.size,12,I⟩ (J I 0 0));rw[<-bn]at aR m ⊢;clear bT bK aG a0 aI a8
 have hS:∀q,BW W3.heap.size W3 q->Aej q w.heap.size y/\q.cell? ⟨t,13,I⟩=Z (J x.so x.sn x.sc):=λq aY=>
  ⟨A2g (Ae aY aR.out (Ab aR.out)),am q (m.trans (aY.mono m.size)) 13⟩
 have g:BW W3.heap.size W3 W3.drew:=(Below.refl _ _).drew;have ba:∀W,BW W3.heap.size W3 W->_:=λW hW=>kt.out W (m.trans (hW.mono m.size));have bb:∀W,BW W3.heap.size W3 W->_:=λW hW=>Ark so n c l tx W ao9 (hb.low (m.trans (hW.mono m.size))) ao9;have aZ:∀W,BW W3.heap.size W3 W->Ap W x.so x.sn x.pl.sp.after:=λW hW=>s.after.row.low (m.trans (hW.mono m.size));have a3:(l++B7 tx.size++tx.data.toList).length<=n+100010:=by have h1:=Oo (n:=tx.size) ao9;have h2:=Km tx;rw[Az,Az,bA.out];omega
 replace⟨hS,g,ba,bb,aZ,a3,bn⟩:=H7 hS g ba bb aZ a3 bn;go_cut [0] (λbv wx=>fi W3 (l++B7 tx.size++tx.data.toList++(B7 x.sn++zB x.pl.sp.after)) bv wx)
 case first=>
  go_region_held3 (λq=>Aej q w.heap.size y/\q.cell? ⟨t,13,I⟩=Z (J x.so x.sn x.sc))
   (first
     | with_reducible exact hS.out _ g.out)
   (first
     | (go_at_call 95
        (with_reducible refine(ba.out _ g.out).mono ?_)
        rintro e wz ⟨rfl,bH⟩;replace g:=Hh (g.trans (bH.mono g.size))
        clear bH)
     | (go_at_call 94
        (with_reducible refine(bb.out _ g.out).mono ?_)
        rintro e wy ⟨v1,rfl,bi,ad⟩;obtain⟨bc,n1,c1,rfl,r⟩:=(fi.lz bi (Below.refl wy.heap.size wy)).own;have b0:=r.len;have kI:=λ(W:WD) (hW:BW wy.heap.size wy W)=>Aeh bc n1 c1 _ x.so x.sn x.sc x.pl.sp.after W (r.low hW) (aZ W ((g.trans (ad.mono g.size)).trans (hW.mono (g.trans (ad.mono g.size)).size))) hs.out (by have:=a3.out;omega);have aL:=Below.refl wy.heap.size wy;replace g:=Hh (g.trans (ad.mono g.size));replace⟨bi,r,kI,aL⟩:=H4 bi r kI aL
        clear ad)
     | (go_at_call 93
        (with_reducible refine(kI.out _ aL.out).mono ?_)
        rintro e wi ⟨v2,rfl,aV⟩;replace g:=Hh (g.trans (aV.low.mono g.size))
        replace aV:=Hh aV))
  all_goals
   go_wp2_with fail;go_meet
   case rel=>exact⟨aV.own,g.out⟩
 case rest=>
 obtain⟨⟨bc,n1,c1,rfl,r⟩,a4⟩:=hcut;have ap:=m.trans (a4.mono m.size);have bX:n1<=1000000200000:=by have h1:=a3.out;have h2:=Kf _ hs.out;have h3:=Oo (n:=x.sn) ao9;have h4:=s.after.row.len;have h5:=r.len;have h6:(B7 x.sn++zB x.pl.sp.after).length=_:=Az;rw[Az]at h5;omega
 obtain⟨l1,aD⟩:=Ex (l++B7 tx.size++tx.data.toList++(B7 x.sn++zB x.pl.sp.after));rw[<-aD]at r;obtain⟨N,hN⟩:=Ex ([x.pl.lf.st,x.pl.lf.bp,x.pl.lf.left,Cq x.pl.lf.wall,Cq x.pl.lf.stop,x.pl.start]);obtain⟨o1,a5⟩:=Ex (Cq x.pl.lf.wall);obtain⟨o2,a6⟩:=Ex (Cq x.pl.lf.stop);have k1:=Z5 x.pl.lf.wall;have k2:=Z5 x.pl.lf.stop;rw[<-a5]at k1;rw[<-a6]at k2
 have a9:∀W,BW wc.heap.size wc W->CS prog 52 #[J bc n1 c1,J (Z ⟨W.heap.size,0,I⟩) 6 6] (W.alloc (V #[G O x.pl.lf.st,G O x.pl.lf.bp,G O x.pl.lf.left,G O o1,G O o2,G O x.pl.start] 3 (0,0))) λe w'=>∃v,e=K v/\fi (W.alloc (V #[G O x.pl.lf.st,G O x.pl.lf.bp,G O x.pl.lf.left,G O o1,G O o2,G O x.pl.start] 3 (0,0))) (l1++zB N) v w':=λW hW=>by
  rw[hN,a5,a6];exact Wf bc n1 c1 l1 (Z ⟨W.heap.size,0,I⟩) 6 6 [x.pl.lf.st,x.pl.lf.bp,x.pl.lf.left,Cq x.pl.lf.wall,Cq x.pl.lf.stop,x.pl.start] _ ((r.low hW).low Bn) (Wg W [x.pl.lf.st,x.pl.lf.bp,x.pl.lf.left,Cq x.pl.lf.wall,Cq x.pl.lf.stop,x.pl.start] as9) hL.out ao9
 have an:∀q,BW wc.heap.size wc q->q.cell? ⟨t,14,I⟩=Z (G O x.pl.lf.st)/\q.cell? ⟨t,15,I⟩=Z (G O x.pl.lf.bp)/\q.cell? ⟨t,16,I⟩=Z (G O x.pl.lf.left)/\q.cell? ⟨t,17,I⟩=Z (D x.pl.lf.wall)/\q.cell? ⟨t,18,I⟩=Z (D x.pl.lf.stop)/\q.cell? ⟨t,19,I⟩=Z (G O x.pl.start):=λq aY=>by
  have h1:=am q (ap.trans (aY.mono ap.size));exact⟨h1 14,h1 15,h1 16,h1 17,h1 18,h1 19⟩
 have f:BW wc.heap.size wc wc.drew:=(Below.refl _ _).drew;have bf:(zB N).length<=60:=by rw[hN];exact Kf _ hL.out
 have aO:=r.len;clear hS ba bb aZ kt;replace⟨ap,a4,r,aD,hN,a5,a6,k1⟩:=H8 ap a4 r aD hN a5 a6 k1;replace⟨k2,a9,an,f,bf,aO⟩:=H6 k2 a9 an f bf aO;go_upto_region 4 with fail;go_cut [0] (λbv wx=>fi wc (l1++zB N) bv wx)
 case first=>
  go_region_held3 (λq=>q.cell? ⟨t,14,I⟩=Z (G O x.pl.lf.st)/\q.cell? ⟨t,15,I⟩=Z (G O x.pl.lf.bp)/\q.cell? ⟨t,16,I⟩=Z (G O x.pl.lf.left)/\q.cell? ⟨t,17,I⟩=Z (D x.pl.lf.wall)/\q.cell? ⟨t,18,I⟩=Z (D x.pl.lf.stop)/\q.cell? ⟨t,19,I⟩=Z (G O x.pl.start))
   (first
     | with_reducible exact an.out _ f.out
     | exact an.out _ (f.alloc f.size _)
     | exact an.out _ (f.alloc f.size _).drew
     | exact an.out _ f.drew)
   (first
     | (go_at_call 55
        (first|(with_reducible refine(k1.out _).mono ?_)|(with_reducible refine(k2.out _).mono ?_))
        rintro e wz ⟨rfl,rfl⟩)
     | (go_at_call 52;refine(a9 wc.drew f.out).mono ?_;rintro e w4 ⟨v4,rfl,aW⟩;replace f:=Hh ((f.alloc f.size _).trans (aW.low.mono (f.alloc f.size _).size))
        replace aW:=Hh aW))
  all_goals
   go_wp2_with fail;go_meet
   case rel=>exact⟨aW.own,f.out⟩
 case rest=>
 obtain⟨⟨bR,n2,c2,rfl,aF⟩,bI⟩:=hcut;have aP:=ap.trans (bI.mono ap.size);obtain⟨po,a7⟩:=Ex (x.po);have bJ:wc.cell? ⟨t,21,I⟩=Z (J po x.pn x.pc):=by rw[a7];exact am.out wc aP 21
 have bY:n2<=1000000200100:=by have h1:=bf.out;have h2:=aF.len;have h3:=aO.out;rw[Az]at h2;omega
 have bg:Al wc wc.heap.size (J I 0 0) []:=⟨⟨rfl,.inl ⟨rfl,rfl⟩⟩⟩;obtain⟨l2,aE⟩:=Ex (l1++zB N);rw[<-aE]at aF;clear bI an a9 f r k1 k2 a4 ap;replace⟨aF,aP,bg,aE,a7⟩:=H5 aF aP bg aE a7;go_wp2_with fail;go_loopw [6,8,63] (λhv _ iv wr=>∃i:Nat,iv=G O i/\i<=x.pn/\Hid (Al wr wc.heap.size hv ((x.pl.parts.take i).map Prod.snd))/\Hid (BW wc.heap.size wc wr)) (λ_ _ iv _=>x.pn-(intOf iv).toNat)
 case atStart=>exact⟨0,rfl,As _,bg.out,Below.refl _ _⟩
 case round=>
  rename WD=>wr
  obtain⟨i,rfl,hi,hO,aH⟩:=hrel;have h:=aP.trans (aH.mono aP.size);by_cases hc:i<x.pn
  .have bN:(i:Int)<x.pn:=ao9;have bW:(0:Int)<=(i:Int):=ao9;obtain⟨pb,p,e,bB,d0,d1⟩:=Pw (Bv.low s.parts h) (k:=i) hc;obtain⟨p1,p2⟩:=p;simp only at d0 d1;have bC:(x.pl.parts.take (i+1)).map Prod.snd=(x.pl.parts.take i).map Prod.snd++[p2]:=(by rw[L7,bB];simp);obtain⟨L,aJ⟩:=Ex (((x.pl.parts.take i).map Prod.snd).length);have bV:L<=i:=(by rw[aJ,Ar,Dt];omega);obtain⟨W8,aK⟩:=Ex (wr.alloc (V #[G O p1,G O p2] 65 (0,0)));have a1:BW wr.heap.size wr W8:=(by rw[aK];exact Bn);have bD:W8.heap[wr.heap.size]?=Z (V #[G O p1,G O p2] 65 (0,0)):=(by rw[aK];exact Ah _ _);have aB:(W8.alloc (V #[G O p2] 3 (0,0))).ownsRow wc.heap.size 3 1 u6 L (Bu ((x.pl.parts.take i).map Prod.snd)):=(by rw[aJ,aK];exact(hO.row.alloc (V #[G O p1,G O p2] 65 (0,0))).alloc (V #[G O p2] 3 (0,0)));have bs:∀k,u6.ownBlock=Z k->wc.heap.size<=k/\k<wr.heap.size:=λk hk=>⟨(hO.row.lt k hk).1,(hO.row.lt k hk).2⟩;have av:=Yb W8 p2;have aA:∀u∈([G O p2]:List Value),u.oneCell'=true:=(by simp[Value.oneCell']);have bd:=Ff (n:=L) ao9;have ad:(L+1)*8<=140737488355328:=ao9;have a2:BW wc.heap.size wc (W8.alloc (V #[G O p2] 3 (0,0))):=(aH.trans (a1.mono aH.size)).alloc (aH.trans (a1.mono aH.size)).size _;have aC:=a2.size;have e2:=a7.trans e;subst e2;replace⟨bB,bC,aJ,a1,bD,aB,bs,av⟩:=H8 bB bC aJ a1 bD aB bs av;replace⟨aA,bd,ad,a2,aC,h,e⟩:=H7 aA bd ad a2 aC h e;clear bJ;go_upto_region 9 with fail;rw[<-aK];clear aK;have b5:=Bk bD.out 1 (G O p2) rfl;go_wp2_with (at_builtin;refine I7 _ rfl _ _ 31 rfl wc.heap.size 3 i3 _ 1 8 M9 bw.out bF.out aS.out aT.out rfl ad9 _ L _ rfl aB.out ⟨W8.heap.size,0,I⟩ 1 1 [G O p2] rfl rfl av.out aA.out bd.out ad.out aC.out ?_;intro v1 w9 ac ao _;obtain⟨g9,bG,rfl⟩:=Joins.ownsRow_form ac ao9;replace⟨ac,ao⟩:=H2 ac ao);have bl:Al w9 wc.heap.size (J (Z ⟨g9,0,I⟩) (L+1) bG) ((x.pl.parts.take (i+1)).map Prod.snd):=(by rw[bC.out];refine⟨?_⟩;rw[Az,<-aJ.out];simpa[Bu]using ac.out);have bo:=a2.grown ao.out aC.out (λk hk=>(bs k hk).1);replace⟨bl,bo⟩:=H2 bl bo;go_wp2_with fail;go_roundw
   case rel=>exact⟨i+1,by go_num,ao9,bl.out,bo.out⟩
   case measure=>simp[intOf];omega
  .have bN:¬(i:Int)<x.pn:=ao9;have bx:(x.pl.parts.take i).map Prod.snd=x.pl.parts.map Prod.snd:=(by rw[Cr (by rw[aQ.out];omega)]);have bk:=hO.out;rw[bx]at bk;obtain⟨ho,hn,bO,rfl,-,aX,-⟩:=On bk;have b4:wr.cell? ⟨t,20,I⟩=Z (J x.go x.gn x.gc):=am wr h 20;have af:=aX.len;rw[Ar,aQ.out]at af;have kG:=Aeh bR n2 c2 l2 x.go x.gn x.gc x.pl.ak wr (aF.low aH.out) (s.ak.row.low h) hg.out ao9;clear bJ hO bk;replace⟨aX,bx,h,kG,af⟩:=H5 aX bx h kG af;go_wp2_with fail;refine kG.mono ?_;rintro e w7 ⟨v7,rfl,bL⟩;obtain⟨⟨bS,n3,c3,rfl,aU⟩,aN⟩:=bL;have bZ:n3<=1000000300000:=(by have h2:=aU.len;have h3:=Kf _ hg.out;have h4:=Oo (n:=x.gn) ao9;have h5:=s.ak.row.len;have h6:=aF.len;rw[Az,Az]at h2;omega);have kH:=Aeh bS n3 c3 _ ho hn bO (x.pl.parts.map Prod.snd) w7 aU (aX.low aN) hp.out (by have:=af.out;omega);replace⟨aU,aN,kH⟩:=H3 aU aN kH;go_wp2_with fail;refine kH.mono ?_;rintro e w9 ⟨v9,rfl,be⟩
   have aM:fi w (l++N7 x.pl) v9 w9:=by
    refine⟨?_,h.trans ((aN.trans (be.low.mono aN.size)).mono h.size)⟩;have e1:l2++(B7 x.gn++zB x.pl.ak)++(B7 hn++zB (x.pl.parts.map Prod.snd))=l++N7 x.pl:=(by rw[aE.out,aD.out,hN.out];unfold N7 Anf O5;rw[al.out,hy.out,s.after.row.len,s.ak.row.len,Ar,aQ.out,<-af.out];simp only[Fq]);rw[<-e1];exact be.own
   clear be;replace aM:=Hh aM;go_wp2_with fail;go_ret;exact⟨_,rfl,aM.out⟩
