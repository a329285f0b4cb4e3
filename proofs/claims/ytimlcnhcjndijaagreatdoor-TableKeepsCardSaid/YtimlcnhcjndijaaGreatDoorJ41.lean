/- Parts of a proof. No condition. -/
import Derived.Test.YtimlcnhcjndijaaGreatDoorJ24
set_option linter.all false
set_option maxRecDepth 100000
set_option maxHeartbeats 1600000
namespace Go.Proofs.YtimlcnhcjndijaaGreatDoor
open Option renaming some->O
namespace Pl
open Go.RowKit
variable{y:Ask}{bs:List Bool}{vs:List V4}
def l8 (a b:Bg):Prop:=∀i u,(a i u).leq (b i u)
def l8.refl (a:Bg):l8 a a:=λ_ _=>V4.leq.refl _
def l8.trans {a b c:Bg} (h:l8 a b) (k:l8 b c):l8 a c:=λi u=>(h i u).trans (k i u)
def Ae2 {a b c d:Bg} (h:l8 a b) (k:l8 c d):l8 (Ak a c) (Ak b d):=λi u=>by
 have h1:=h i u;have e:=k i u;simp[V4.leq,Ak,Aq]at *;omega
def A4c {a b:Bg} (h:nn b):l8 a (Ak a b):=λi u=>by
 have:=Oc.1 (h i u);simp[V4.leq,Ak,Aq];omega
def A4d {a:Bg} (h:nn a):l8 mr a:=λi u=>h i u
def A4e {xs ys:List Bg} (h:xs.Perm ys):Bw xs=Bw ys:=by
 induction h with
 | nil=>rfl
 | cons x _ ih=>show Ak x (Bw _)=Ak x (Bw _);rw[ih]
 | swap x y l=>show Ak y (Ak x (Bw l))=Ak x (Ak y (Bw l));rw[<-G6,Pd y x,G6]
 | trans _ _ h1 h2=>exact h1.trans h2
def Kj (y:Ask):Bg:=if 0<=y.start then gg y.dn y.start (y.start+y.aa) y.v else mr
def Gd (l:List Ask):Bg:=Bw (l.map Kj)
def Ae3 (l m:List Ask):Gd (l++m)=Ak (Gd l) (Gd m):=by simp[Gd,Ac5]
def Ts (vs:List V4) (bs:List Bool) (least:Int) (y:Ask):Prop:=
 y.start<0\/(y.can=true/\least<=y.start/\y.start<1099511627776/\Ga bs y y.dn/\Cy vs.length y.dn/\Bb y.start (y.start+y.aa) y.v=true)
def Aod   {a:Int}  (h:Ts vs bs a y):nn (Kj y):=by
 unfold Kj;split
 .next hge=>
  rcases h with c|⟨_,_,_,_,_,c⟩
  .omega
  .exact Qg (Lp c).2.2.2
 .exact Qf
def Aoe   {a:Int} {l:List Ask} (h:∀y,y∈l->Ts vs bs a y):nn (Gd l):=Tc λx b=>by
 obtain⟨y,c,rfl⟩:=A5.1 b;exact Aod (h y c)
def A4f  {j:Nat} {a:Int} {f:List Av} {r:Int} {q:List Nd} (d:Ob vs j a) (o:∀h,h∈f->Cy vs.length h.dn/\Bb a (Im a h) h.v=true)
  (b:∀i,i<vs.length->∀u,0<=u->u<1099511627776->(D2 a f i u).leq (vv vs i)) (h:I9 vs j a f r q):r=0:=by
 rcases h with⟨c,_⟩|⟨_,t,n,⟨e,_⟩|⟨e,k,x,m,y,s,l,g⟩⟩
 .exact absurd d c
 .exact e
 .have p:=(Rn l (Y7 n)).1.gr (Qe _);exact(Aw0 s o b p g.1 g.2).1
def A4g   {V9q:Bg} {m:List Nd}  {zs:List Int} {T after t:Int} {xs:List Nat} {is:Bool} (k:Be vs V9q m)
  (q:∀i,i<vs.length->∀u,0<=u->u<1099511627776->(Ak V9q (gg zs T (T+y.aa) y.v) i u).leq (vv vs i)) (ho:Ga bs y zs) (hc:y.can=true) (l:Cy vs.length zs) (hs:Bb T (T+y.aa) y.v=true)
  (am:vs.length<=16) (hT:max after 0<=T) (o:T<1099511627776) (h:Fx m (Bl (ji bs y.ie)) y.nodes y.v y.aa after t xs is):is=true/\t<=T:=by
 obtain⟨c1,c2,c3⟩:=Akh hc;obtain⟨s1,s2,s3,s4⟩:=Lp hs;have ad:=k.len
 have al:y.nodes<=(ga m (Bl (ji bs y.ie)) y.aa y.v T).length:=by
  have s:∀i (d:i<zs.length),zs[i]=zi zs i:=λi d=>by simp[zi,List.getD,d]
  have hp:(zs.map Int.toNat).Pairwise (·<·):=by rw[L1];intro i j d f p;simp only[Ar]at d f;simp only[Aa4];rw[s i d,s j f];have:=Ajg l p f;have:=l.low i d;omega
  have:=Akb hp (ys:=ga m (Bl (ji bs y.ie)) y.aa y.v T) λj f=>by
   obtain⟨z,ac,rfl⟩:=A5.1 f;obtain⟨i,d,rfl⟩:=Ol.1 ac;rw[s i d];have l1:=l.low i d;have l2:=l.high i d;have g:(zi zs i).toNat<16:=ao9;have ha:Bx zs zs.length (zi zs i).toNat:=⟨i,d,ao9⟩;unfold ga I8;rw[F3,Ot];refine⟨g,?_⟩;simp only[pick,Da,F2,U8];refine⟨⟨ao9,?_⟩,?_⟩
   .obtain ⟨n,r,e⟩:=A5.1 (ho.od i d)
    have:(zi zs i).toNat=n:=ao9
    rw[this];exact r
   .rw [Aka k ao9 ao9 ao9];refine⟨ao9,λx a b=>?_⟩;have:=q (zi zs i).toNat ao9 x ao9 ao9;simpa[Ak,gg,ha,a,b]using this
  have h2:=ho.len;simp at this;omega
 unfold Fx at h;rw[Ad ⟨ao9,ao9,c3⟩]at h;rcases h with⟨hb,h1,h2,h3,h4,h5⟩|⟨_,_,_,r⟩
 .refine ⟨hb,?_⟩;apply Gv;intro c;have:=h5 T hT ao9;omega
 .have:=r T hT o;omega
def A4h   {a:Int}  {b:Bool} (d:Ts vs bs a y) (f:b=true->0<=y.start):l8 (Bh a (y,b)) (Kj y):=by
 cases b with
 | false=>simp only[Bh];exact A4d (Aod d)
 | true=>
  have h0:=f rfl;rcases d with c|⟨_,c,_⟩
  .omega
  .have e:Dx a y=y.start:=(by unfold Dx;omega);simp only[Bh,Kj,Ad h0,e];exact l8.refl _
def A4i   {a:Int} {st:List (Ask×Bool)} (d:∀x,x∈st->Ts vs bs a x.1) (c:∀x,x∈st->x.2=true->0<=x.1.start):l8 (Od a st) (Gd (st.map Prod.fst)):=by
 induction st with
 | nil=>exact l8.refl _
 | cons x xs ih=>
  show l8 (Ak (Bh a x) (Od a xs)) (Ak (Kj x.1) (Gd (xs.map Prod.fst)));exact Ae2 (A4h (d x (Ci ..)) (c x (Ci ..))) (ih (λy b=>d y (B2 _ b)) (λy b=>c y (B2 _ b)))
def Aof {α:Type} {l:List α} {i:Nat} {x:α} (h:l[i]?=O x):l=l.take i++x :: l.drop (i+1):=by
 have:=Mn (i+1) l;rw[Oa h,K6]at this;exact this.symm
