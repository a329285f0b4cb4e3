/- Parts of a proof. No condition. -/
import Derived.Test.YtimlcnhcjndijaaGreatDoorJ20
import Derived.Deep.DeepCutAuto
set_option linter.all false
set_option maxRecDepth 100000
set_option maxHeartbeats 1600000
namespace Go.Proofs.YtimlcnhcjndijaaGreatDoor
open Option renaming none->I,some->O
open Value renaming pointer->K,int->Z,tuple->E,slice->V,bool->Q
open IntKind renaming i64->G
open Obj renaming cells->J
open Ending renaming returned->Y
open Go renaming World->WD
open Go.RowKit renaming Below->BW
open Go.Proofs.Tryz
namespace Pl
open Go.RowKit
variable{zs:List Int}{k n:Nat}{whole:V4}{w w':WD}
def Aiv (whole:V4) (l:List St) (fr tt:Int) (v:V4) (r:Int) (l':List St):Prop:=
 (Bb fr tt v=false/\r=1/\l'=l)\/(Bb fr tt v=true/\¬(((F8 l fr tt).add v).2=0/\((F8 l fr tt).add v).1.fits whole=true)/\r=61/\l'=l) \/
  (Bb fr tt v=true/\((F8 l fr tt).add v).2=0/\((F8 l fr tt).add v).1.fits whole=true/\r=0/\Rg l fr tt (λf=>(f.add v).1) l')
def S8 {W w1:WD} (a:BW W.heap.size W w1):(∀b o,b<W.heap.size->w1.cell? ⟨b,o,I⟩=W.cell? ⟨b,o,I⟩)/\(∀b o,b<W.heap.size->w1.frozen? ⟨b,o,I⟩=W.frozen? ⟨b,o,I⟩):=
 ⟨λb o h=>a.cell (p:=⟨b,o,I⟩) h,λb o h=>a.frozen (p:=⟨b,o,I⟩) h⟩
def Aiw (B:Nat) (w:WD) (n:Nat):BW B w (w.drewN n):=⟨rfl,rfl,rfl,Nat.le_refl _,λ_ _=>rfl⟩
def Y1 (w2:WD) (r:V4×Int) (s9 s10:Value) (wx:WD):Prop:=
 ∃g:Nat,s9=K (O ⟨g,0,I⟩)/\s10=Z G r.2/\w2.heap.size<=g/\wx.heap[g]?=O (J r.1.cells 30 (0,0))/\BW w2.heap.size w2 wx
def World.sa (w:WD) (b:Nat) (v:V4):WD:=
 (((w.setCell ⟨b,0,I⟩ (Z G v.a)).setCell ⟨b,1,I⟩ (Z G v.b)).setCell ⟨b,2,I⟩ (Z G v.c)).setCell ⟨b,3,I⟩ (Z G v.d)
def Aix  {b:Nat} {u:V4} (h:w.heap[b]?=O (J u.cells 30 (0,0))) (v:V4):(World.sa w b v).heap[b]?=O (J v.cells 30 (0,0)):=by
 unfold World.sa;rw[Ap (Ap (Ap (Ap h _ _) _ _) _ _) _ _];simp
def Aiy {B:Nat}  (h:BW B w w') {b:Nat} (a:B<=b) (v:V4):BW B w (World.sa w' b v):=
 (((h.setCell a _).setCell a _).setCell a _).setCell a _
def Aun {c d e:WD} {r:V4×Int} (a:BW c.drew.heap.size c.drew d) (b:BW d.heap.size d e) :
  Y1 c r (K (O ⟨e.heap.size,0,I⟩)) (Z G r.2) (e.alloc (J r.1.cells 30)):=by
 have f:=(I7 a).size;have g:=b.size;exact⟨_,rfl,rfl,ao9,Ah _ _,((I7 a).trans (b.mono f)).alloc (by show c.heap.size<=_;omega) _⟩
def Auo {e c f:WD} {r:V4×Int} (b:BW e.drew.heap.size e.drew c) (a:BW (c.alloc (J V4.zero.cells 30)).heap.size (c.alloc (J V4.zero.cells 30)) f) :
  Y1 e r (K (O ⟨c.heap.size,0,I⟩)) (Z G r.2) (World.sa f c.heap.size r.1):=by
 have d:=(I7 b).size;have g:=a.size;simp at g;refine⟨_,rfl,rfl,d,Aix (Ae a (Ah _ _) as9) _,Aiy ?_ d _⟩;exact((I7 b).alloc d _).trans (a.mono (by simp;exact Nat.le_succ_of_le d))
def Aup {c e f:WD} {r:V4×Int} (d:BW (c.alloc (J V4.zero.cells 30)).drew.heap.size (c.alloc (J V4.zero.cells 30)).drew e) (b:BW e.heap.size e f) :
  Y1 c r (K (O ⟨c.heap.size,0,I⟩)) (Z G r.2) (World.sa f c.heap.size r.1):=by
 have a:=I7 d;have g:=a.size;simp at g;refine⟨_,rfl,rfl,Nat.le_refl _,Aix (Ae b (Ae a (Ah _ _) as9) ao9) _,Aiy ?_ Ln _⟩;exact(Bn.trans (a.mono as9)).trans (b.mono ao9)
def Aiz (pb x cap:Nat) (whole:V4) (l:List St) (fr y:Int) (v:V4) (w:WD) (hp:Cx w pb x cap whole l) (hl:Ct l) :
  Calls prog 243 #[K (O ⟨pb,0,I⟩),Z G fr,Z G y,v.val] w (Acl pb x whole (Aiv whole l fr y v) w):=by
 obtain⟨aA,aB⟩:=hp.lt;replace⟨hp,hl⟩:=H2 hp hl;go_enter func243,ntmps243;go_wp2_with fail;refine(Ais fr y v _).mono ?_;rintro e w2 ⟨rfl,z⟩;have i:=Bn.trans (z.mono as9);have g2:=Ae z (Ah _ _) as9;have d:=hp.below i aA aB;have s2:=i.size;have aL:=Ab g2;replace⟨z,i,d⟩:=H3 z i d;by_cases hs:Bb fr y v=true
 .rw [hs];obtain⟨b1,b2,b3,b4⟩:=Nc hs;have x0:=Aa g2 0;have x1:=Aa g2 1;have x2:=Aa g2 2;have x3:=Aa g2 3;simp at x0 x1 x2 x3;replace⟨g2,hs,b4⟩:=H3 g2 hs b4;have aJ:Hid (Cx w2.drew pb x cap whole l):=d.drew;have aK:Hid (∀o,Cx (w2.alloc o).drew pb x cap whole l):=λo=>(d.below ((Below.refl _ _).alloc Ln o) d.lt.1 d.lt.2).drew;obtain⟨r,hr⟩:=Ex ((F8 l fr y).add v)
  have q:∀w,Calls prog 281 #[(F8 l fr y).val,v.val] w λe w'=>e=Y (E #[r.1.val,Z G r.2])/\BW w.heap.size w w':=by rw[hr];exact Aia _ _
  replace⟨q,hr⟩:=H2 q hr;have aR:w.heap.size<w2.heap.size+1:=ao9
  go_upto_region 3 with fail;go_cut [9,10] (λs9 aM wx=>Y1 w2 r s9 aM wx)
  case first=>
   go_region_law
    (first
      | (go_simp;go_at_call 282
         (first
           | refine(Air pb x cap whole l fr y _ aJ.out hl.out b1 ao9).mono ?_
           | refine(Air pb x cap whole l fr y _ (aK _) hl.out b1 ao9).mono ?_)
         rintro e w3 ⟨rfl,b⟩;have s3:=b.size;obtain⟨aD,aH⟩:=S8 b
         (try simp at s3)
         (try simp at aD)
         (try simp at aH)
         have aS:w.heap.size<w3.heap.size:=ao9
         (try have aO:w2.heap.size<w3.heap.size:=by omega)
         replace b:=Hh b)
      | (go_simp;go_at_call 281;refine(q _).mono ?_;rintro e w4 ⟨rfl,c⟩;have s4:=c.size;obtain⟨aE,aI⟩:=S8 c
         (try simp at s4)
         (try simp at aE)
         (try simp at aI)
         (try have aP:w3.heap.size<w4.heap.size:=by omega)
         (try have aQ:w2.heap.size<w4.heap.size:=by omega)
         replace c:=Hh c))
   all_goals
    go_wp2_with fail;go_meet
    first
     | exact Aun b.out c.out
     | exact Auo b.out c.out
     | exact Aup b.out c.out
  case rest=>
   obtain⟨g,rfl,rfl,hg,n,p⟩:=hcut;have m:=i.trans (p.mono s2);have a:=hp.below m aA aB;have gv:=Ae p g2.out aL;have sx:=m.size;have e0:=Aa n 0;have e1:=Aa n 1;have e2:=Aa n 2;have e3:=Aa n 3;have q0:=Aa a.head 0;have q1:=Aa a.head 1;have q2:=Aa a.head 2;have q3:=Aa a.head 3;simp at e0 e1 e2 e3 q0 q1 q2 q3;clear x0 x1 x2 x3;replace⟨n,p,m,a,gv⟩:=H5 n p m a gv;by_cases u:r.2=0
   .have aF:(r.2 == 0)=true:=(by simpa using u);have aG:(r.2 != 0)=false:=(by simpa using u);replace u:=Hh u;go_wp2_with fail;go_region_law
     (first
       | (go_simp;go_at_call 65;refine(Xo r.1 whole _).mono ?_;rintro e w5 ⟨rfl,an⟩
          replace an:=Hh an))
    all_goals
     have t:=I7 an.out;have j:=m.trans (t.mono (by simpa using sx));have ad:=hp.below j aA aB;have am:=Ae t gv.out (by have:=p.size;simp;omega);have s5:=j.size;replace⟨ad,j,am⟩:=H3 ad j am;clear t;by_cases hf:r.1.fits whole=true
     .simp only[hf];replace hf:=Hh hf;go_wp2_with fail;refine(Ain pb x cap w.heap.size v whole l fr y 283 (λf=>(f.add v).1) _ ad.out hl.out b1 b2 b3 am.out ao9 ao9 Auk (λs w1 h=>Aum s v _ w1 h)).mono ?_;rintro e w6 ⟨rfl,aN,aC,l',hc,ap,av,ao⟩;replace⟨hc,ap,av,ao⟩:=H4 hc ap av ao;go_wp2;go_ret;refine⟨0,aN,aC,l',rfl,.inr (.inr ⟨hs.out,by rw[<-hr.out];exact u.out,by rw[<-hr.out];exact hf.out,rfl,hc.out⟩),ap.out,?_,(Mod.af j.out).trans (ao.mono λk _ h=>.inl h)⟩;rcases av.out with h|h
      .exact .inl h
      .exact .inr (A8 s5 h)
     .have ac:r.1.fits whole=false:=(by simpa using hf);simp only[ac];replace ac:=Hh ac;clear hf;go_wp2;go_ret;exact⟨61,x,cap,l,rfl,.inr (.inl ⟨hs.out,(λh=>by have:=ac.out;rw[hr.out,h.2]at this;cases this),rfl,rfl⟩),ad.out,.inl rfl,Mod.af j.out⟩
   .have aF:(r.2 == 0)=false:=(by simpa using u);have aG:(r.2 != 0)=true:=(by simpa using u);replace u:=Hh u;go_wp2_with fail;go_quiet (fail);go_wp2;go_ret;exact⟨61,x,cap,l,rfl,.inr (.inl ⟨hs.out,(λh=>u.out (by rw[hr.out];exact h.1)),rfl,rfl⟩),a.below (Aiw _ _ _) a.lt.1 a.lt.2,.inl rfl,Mod.af (m.trans (Aiw _ _ _))⟩
 .have al:Bb fr y v=false:=by simpa using hs
  rw[al];replace al:=Hh al;clear hs;go_wp2;go_ret;exact⟨1,x,cap,l,rfl,.inl ⟨al.out,rfl,rfl⟩,d.out,.inl rfl,Mod.af i.out⟩
def Fw (d:V4):List St->Int->V4
 | [],_=>d
 | s :: r,u=>if s.t<=u then Fw s.f r u else d
def val (l:List St) (u:Int):V4:=Fw V4.zero l u
def Qa:List St->Prop
 | []=>True
 | s :: r=>(∀x∈r,s.t<x.t)/\Qa r
def S9 {l:List St} {x:St} (h:x∈l):∃i,i<l.length/\nth l i=x:=by
 obtain⟨i,a,rfl⟩:=Ol.1 h;exact⟨i,a,by simp[nth,a]⟩
def Acm {l:List St} {i:Nat} (h:i<l.length):nth l i∈l:=by
 simp[nth,h]
def Acn (l:List St) (h:Nb l):Qa l:=by
 induction l with
 | nil=>trivial
 | cons s r ih=>
  refine⟨λx b=>?_,ih (Ack h)⟩;obtain⟨i,a,rfl⟩:=S9 b;have:=h 0 (i+1) ao9 (by simpa using a)
  rwa [J9,Ff]at this
def Aus (l:List St) (h:Qa l):Nb l:=by
 induction l with
 | nil=>intro i j _ a;simp at a
 | cons s r ih=>
  intro i j b a
  cases j with
  | zero=>omega
  | succ j=>
   cases i with
   | zero=>rw[J9,Ff];exact h.1 _ (Acm (by simpa using a))
   | succ i=>rw[Ff,Ff];exact ih h.2 i j ao9 (by simpa using a)
def O6 {d:V4} {l:List St} {u:Int} (h:∀x∈l,u<x.t):Fw d l u=d:=by
 cases l with
 | nil=>rfl
 | cons s r=>simp only[Fw];rw[Ac (by have:=h s as9;omega)]
def Aut {d:V4} {l:List St} {u:Int}  (e:Nb l) (h:Lj l u k):Fw d l u=(nth l k).f:=by
 induction l generalizing d k with
 | nil=>exact absurd h.1 as9
 | cons s r ih=>
  obtain⟨h1,a,c⟩:=h;simp only[Fw]
  cases k with
  | zero=>
   rw[J9]at a ⊢;rw[Ad a,O6];intro x m;obtain⟨i,g,rfl⟩:=S9 m;have:=c (i+1) ao9 (by simpa using g)
   rwa [Ff]at this
  | succ k=>
   have h0:=e 0 (k+1) ao9 h1;rw[Ff]at a h0 ⊢;rw[J9]at h0;rw[Ad ao9];exact ih (Ack e) ⟨by simpa using h1,a,λj n b=>by have:=c (j+1) ao9 (by simpa using b);rwa [Ff]at this⟩
def Nf {l:List St} {u:Int}  (a:Nb l) (h:Lj l u k):val l u=(nth l k).f:=Aut a h
def U5 {l:List St} (b:Ct l) {u:Int} (g:0<=u):∃k,Lj l u k:=by
 have c:∀n,n<l.length->(∃k,Lj l u k)\/(nth l n).t<=u:=by
  intro n
  induction n with
  | zero=>intro _;right;rw[b.zero];exact g
  | succ n ih=>
   intro i;rcases ih ao9 with h|h
   .exact .inl h
   .by_cases d:(nth l (n+1)).t<=u
    .exact .inr d
    .refine .inl ⟨n,ao9,h,λj f a=>?_⟩;by_cases e:j=n+1
     .subst e;omega
     .have:=b.aw (n+1) j ao9 a;omega
 have m:=b.pos;rcases c (l.length-1) ao9 with h|h
 .exact h
 .exact ⟨l.length-1,ao9,h,λj f a=>by omega⟩
def Ai2 {l x:List St} {t:Int}  (g:Ct l) (h:Rf l t n x) (ht:t<1099511627776) {u:Int} (hu:0<=u):val x u=val l u:=by
 obtain⟨a,_,_,_,_,_⟩:=h.facts g ht;obtain⟨k,z,h⟩:=h;rcases h with⟨_,rfl,_⟩|⟨h1,rfl,rfl⟩
 .rfl
 .obtain ⟨j,r⟩:=U5 g hu;rw[Nf g.aw r];obtain⟨v,k2,k3⟩:=z;obtain⟨j1,o,p⟩:=r;have b:=Aii l k t v;have s:=Acg l k t v;by_cases y:j<k
  .rw [Nf a.aw (k:=j) ⟨ao9,by rw[b j ao9,Ad ao9];exact o,λi q c=>?_⟩,b j ao9,Ad ao9];have h3:=p (j+1) ao9 ao9;have h4:(nth (Lk l k t) (j+1)).t=(nth l (j+1)).t:=(by rw[b (j+1) ao9,Ad ao9]);by_cases e:i=j+1
   .subst e;omega
   .have:=a.aw (j+1) i ao9 c;omega
  .by_cases m:t<=u
   .have e:(nth (Lk l k t) (j+1)).f=(nth l j).f/\(nth (Lk l k t) (j+1)).t<=u:=by
     rw[b (j+1) ao9,Ac ao9];by_cases e:j=k
     .subst e;rw[Ad rfl];exact⟨rfl,m⟩
     .rw [Ac ao9,Nat.add_sub_cancel];exact⟨rfl,o⟩
    rw[Nf a.aw (k:=j+1) ⟨ao9,e.2,λi q c=>?_⟩,e.1];rw[b i ao9,Ac ao9,Ac ao9];exact p (i-1) ao9 ao9
   .have d:j=k:=(by apply Gv;intro hc;have:=k3 j ao9 j1;omega);subst d;rw[Nf a.aw (k:=j) ⟨ao9,by rw[b j ao9,Ad ao9];exact o,λi q c=>?_⟩,b j ao9,Ad ao9];rw[b i ao9,Ac ao9];split
    .show u<t;omega
    .exact p (i-1) ao9 ao9
def Auu {l:List St} (r:Ct l) (g:V4->V4) {i e:Nat} (h:i<=e) (q:e<=l.length) {u:Int}  (f:Lj l u k) :
  val (Il g i e l) u=if i<=k/\k<e then g (val l u)else val l u:=by
 have s:=S7 g i e l h q;have c:=S6 g i e l h q
 have m:∀j,j<l.length->(nth (Il g i e l) j).t=(nth l j).t:=λj p=>by rw[s j p];split<;>rfl
 have v:Nb (Il g i e l):=λa b n o=>by rw[c]at o;rw[m a ao9,m b o];exact r.aw a b n o
 rw[Nf v (k:=k) ⟨by rw[c];exact f.1,by rw[m k f.1];exact f.2.1,λj p d=>by rw[c]at d;rw[m j d];exact f.2.2 j p d⟩,s k f.1,Nf r.aw f]
 split<;>rfl
def Auv {l:List St} (f:Ct l) (g:V4->V4) {i e:Nat} (h:i<=e) (o:e<=l.length):Ct (Il g i e l):=by
 have p:=S7 g i e l h o;have c:=S6 g i e l h o
 have k:∀j,j<l.length->(nth (Il g i e l) j).t=(nth l j).t:=λj d=>by rw[p j d];split<;>rfl
 have q:=f.pos;exact⟨ao9,by rw[k 0 q];exact f.zero,λa b m n=>by rw[c]at n;rw[k a ao9,k b n];exact f.aw a b m n,λj d=>by rw[c]at d;rw[k j d];exact f.last j d⟩
def Aco (p:V4) (l:List St):∀x∈Gr p l,x∈l:=by
 induction l generalizing p with
 | nil=>simp[Gr]
 | cons s r ih=>
  intro x a;simp only[Gr]at a;split at a
  .exact B2 _ (ih _ x a)
  .rcases Fm.1 a with rfl|h
   .simp
   .exact B2 _ (ih _ x h)
def Auw (p:V4) (l:List St) (h:Qa l):Qa (Gr p l):=by
 induction l generalizing p with
 | nil=>exact h
 | cons s r ih=>
  simp only[Gr];split
  .exact ih _ h.2
  .exact ⟨λx a=>h.1 x (Aco _ _ x a),ih _ h.2⟩
def Aux (p:V4) (l:List St) (h:Qa l) (u:Int):Fw p (Gr p l) u=Fw p l u:=by
 induction l generalizing p with
 | nil=>rfl
 | cons s r ih=>
  simp only[Gr,Fw];by_cases a:s.f=p
  .rw [Ad a];have e:=ih s.f h.2;rw[a]at e ⊢;rw[e];by_cases b:s.t<=u
   .rw [Ad b]
   .rw [Ac b]
    exact O6 λx c=>by have:=h.1 x c;omega
  .rw [Ac a];simp only[Fw];rw[ih s.f h.2]
def vx (p:V4):List St->Prop
 | []=>True
 | s :: r=>s.f≠p/\vx s.f r
def Auy (p:V4) (l:List St):vx p (Gr p l):=by
 induction l generalizing p with
 | nil=>trivial
 | cons s r ih=>
  simp only[Gr];split
  .next h=>have:=ih s.f;rw[h]at this ⊢;exact this
  .next h=>exact⟨h,ih s.f⟩
def Auz {p:V4} {l:List St} (h:vx p l):∀i,i+1<l.length->(nth l i).f≠(nth l (i+1)).f:=by
 induction l generalizing p with
 | nil=>intro i a;simp at a
 | cons s r ih=>
  intro i a
  cases i with
  | zero=>
   cases r with
   | nil=>simp at a
   | cons s2 r2=>rw[J9,Ff,J9];exact Qy h.2.1
  | succ i=>rw[Ff,Ff];exact ih h.2 i (by simpa using a)
def Ai3 (s:St) (r:List St) (h:∀i,i+1<(s :: r).length->(nth (s :: r) i).f≠(nth (s :: r) (i+1)).f):vx s.f r:=by
 induction r generalizing s with
 | nil=>trivial
 | cons s2 r ih=>
  refine⟨?_,ih s2 λi a=>?_⟩
  .have:=h 0 as9;rw[J9,Ff,J9]at this;exact Qy this
  .have:=h (i+1) (by simpa using a);rwa [Ff,Ff]at this
def Au0 {l:List St} (c:Ct l):Ct (Cg l)/\(∀u,val (Cg l) u=val l u)/\(∀x∈Cg l,x∈l)/\(∀i,i+1<(Cg l).length->(nth (Cg l) i).f≠(nth (Cg l) (i+1)).f):=by
 cases l with
 | nil=>exact absurd c.pos as9
 | cons s r=>
  have d:=Acn _ c.aw
  have b:∀x∈Cg (s :: r),x∈s :: r:=by
   intro x g;rcases Fm.1 g with rfl|h
   .simp
   .exact B2 _ (Aco _ _ x h)
  refine⟨⟨by simp[Cg],c.zero,Aus _ ⟨λx g=>d.1 x (Aco _ _ x g),Auw _ _ d.2⟩,λi k=>?_⟩,λu=>?_,b,?_⟩
  .obtain ⟨j,m,e⟩:=S9 (b _ (Acm k));rw[<-e];exact c.last j m
  .simp only[Cg,val,Fw];rw[Aux _ _ d.2]
  .exact Auz (p:=⟨s.f.a+1,0,0,0⟩) ⟨λh=>by have:=Cv V4.a h;simp at this;omega,Auy s.f r⟩
def Au1 {a:V4} {r e:List St} (t0:Int) (h:Qa r) (i:Qa e) (p:vx a r) (g:vx a e) (n:∀x∈r,t0<=x.t/\x.t<1099511627776) (c:∀x∈e,t0<=x.t/\x.t<1099511627776)
  (j:∀u,t0<=u->u<1099511627776->Fw a r u=Fw a e u):r=e:=by
 induction r generalizing a e t0 with
 | nil=>
  cases e with
  | nil=>rfl
  | cons s' q'=>
   exfalso;have:=j s'.t (c s' as9).1 (c s' as9).2;simp only[Fw]at this;rw[Ad (Dc _),O6 i.1]at this;exact g.1 this.symm
 | cons s q ih=>
  cases e with
  | nil=>
   exfalso;have:=j s.t (n s as9).1 (n s as9).2;simp only[Fw]at this;rw[Ad (Dc _),O6 h.1]at this;exact p.1 this
  | cons s' q'=>
   have b:=n s as9;have v:=c s' as9;have d:=j s.t b.1 b.2;have m:=j s'.t v.1 v.2;simp only[Fw]at d m;rw[Ad (Dc _),O6 h.1]at d;rw[Ad (Dc s'.t),O6 i.1]at m
   have o:s.t=s'.t:=by
    apply Gv;intro hc;by_cases z:s.t<s'.t
    .rw [Ac ao9]at d;exact p.1 d
    .rw [Ac ao9]at m;exact g.1 m.symm
   rw[Ad ao9]at d;have k:Fw s'.f q' s.t=s'.f:=O6 (by rw[o];exact i.1);rw[k]at d;have hs:s=s':=(by obtain⟨st,sf⟩:=s;obtain⟨ad,ac⟩:=s';simp at o d;rw[o,d]);subst hs;rw[ih s.t h.2 i.2 p.2 g.2 (λx l=>⟨by have:=h.1 x l;omega,(n x (by simp[l])).2⟩) (λx l=>⟨by have:=i.1 x l;omega,(c x (by simp[l])).2⟩) λu h1 y=>?_];have:=j u ao9 y;simp only[Fw]at this
   rwa [Ad h1,Ad h1]at this
def Acp {l d:List St} (h:Ct l) (a:Ct d) (hu:∀i,i+1<l.length->(nth l i).f≠(nth l (i+1)).f) (o:∀i,i+1<d.length->(nth d i).f≠(nth d (i+1)).f)
  (p:∀u,0<=u->u<1099511627776->val l u=val d u):l=d:=by
 cases l with
 | nil=>exact absurd h.pos as9
 | cons s r=>
  cases d with
  | nil=>exact absurd a.pos as9
  | cons s' r'=>
   have n:=Acn _ h.aw;have c:=Acn _ a.aw;have z:s.t=0:=h.zero;have q:s'.t=0:=a.zero
   have y:∀x∈r,0<=x.t/\x.t<1099511627776:=λx b=>by
    have:=n.1 x b;obtain⟨j,m,e⟩:=S9 (B2 s b);exact⟨ao9,by rw[<-e];exact h.last j m⟩
   have k:∀x∈r',0<=x.t/\x.t<1099511627776:=λx b=>by
    have:=c.1 x b;obtain⟨j,m,e⟩:=S9 (B2 s' b);exact⟨ao9,by rw[<-e];exact a.last j m⟩
   have g:=p 0 (Dc _) ao9;simp only[val,Fw]at g;rw[Ad ao9,Ad ao9,O6 (λx b=>by have:=n.1 x b;omega),O6 (λx b=>by have:=c.1 x b;omega)]at g;have hs:s=s':=(by obtain⟨st,sf⟩:=s;obtain⟨ad,ac⟩:=s';simp at z q g;rw[z,q,g]);subst hs;rw[Au1 0 n.2 c.2 (Ai3 s r hu) (Ai3 s r' o) y k λu h1 v=>?_];have:=p u h1 v;simp only[val,Fw]at this
   rwa [Ad ao9,Ad ao9]at this
def Ai4 (l:List St):Prop:=∀i,i+1<l.length->(nth l i).f≠(nth l (i+1)).f
def Ai5 {l p:List St} {fr d:Int} {g:V4->V4} (x:Ct l) (h:Rg l fr d g p) (_h0:0<=fr) (h1:fr<d) (h2:d<=1099511627776) :
  Ct p/\Ai4 p/\∀u,0<=u->u<1099511627776->val p u=if fr<=u/\u<d then g (val l u)else val l u:=by
 obtain⟨i,l1,e,f,m,c,rfl⟩:=h;obtain⟨j,a1,a2,a3,a4,a5⟩:=m.facts x ao9
 have s:Ct f/\i<=e/\e<=f.length/\(nth f i).t=fr/\i<f.length/\(∀u,0<=u->val f u=val l1 u)/\(d<1099511627776->e<f.length/\(nth f e).t=d)/\(d=1099511627776->e=f.length):=by
  rcases c with⟨n,c⟩|⟨n,rfl,rfl⟩
  .obtain ⟨a,b1,b2,b3,b4,b5⟩:=c.facts j n;obtain⟨v,q⟩:=b4 i a1 ao9;exact⟨a,ao9,ao9,by rw[q];exact a2,ao9,λu o=>Ai2 j c n o,λ_=>⟨b1,b2⟩,λh=>by omega⟩
  .exact ⟨j,ao9,Nat.le_refl _,a2,a1,λ_ _=>rfl,λh=>by omega,λ_=>rfl⟩
 obtain⟨a,y,z,k3,k4,k5,k6,k7⟩:=s;obtain⟨v,q,c3,c4⟩:=Au0 (Auv a g y z);refine⟨v,c4,λu o am=>?_⟩;obtain⟨k,b⟩:=U5 a o;rw[q,Auu a g y z b,k5 u o,Ai2 x m ao9 o]
 have e1:i<=k↔fr<=u:=by
  constructor
  .intro ad;by_cases e:i=k
   .subst e;have:=b.2.1;omega
   .have:=a.aw i k ao9 b.1;have:=b.2.1;omega
  .intro ac;apply Gv;intro hc;have:=b.2.2 i ao9 k4;omega
 have e2:k<e↔u<d:=by
  have al:=b.1;by_cases n:d<1099511627776
  .obtain ⟨g1,g2⟩:=k6 n;constructor
   .intro r;have:=b.2.2 e r g1;omega
   .intro an;apply Gv;intro hc;by_cases e':e=k
    .subst e';have:=b.2.1;omega
    .have:=a.aw e k ao9 b.1;have:=b.2.1;omega
  .have:=k7 ao9;omega
 simp only[e1,e2]
structure Inv (whole:V4) (l:List St):Prop where
 right:whole.right=true
 loose:Ct l
 iy:Ai4 l
 free:∀u,0<=u->u<1099511627776->(val l u).right=true/\(val l u).fits whole=true
def _root_.Go.Proofs.YtimlcnhcjndijaaGreatDoor.V4.leq (u v:V4):Prop:=u.a<=v.a/\u.b<=v.b/\u.c<=v.c/\u.d<=v.d
def Mf {u v:V4}:u.fits v=true↔u.leq v:=by simp[V4.fits,V4.leq,and_assoc]
def Au2 {u v:V4}:u.fits v=false↔¬u.leq v:=by rw[<-Mf];simp
def F9 {u:V4}:u.right=true↔(0<=u.a/\u.a<=1073741824)/\(0<=u.b/\u.b<=1073741824)/\(0<=u.c/\u.c<=1073741824)/\(0<=u.d/\u.d<=1073741824):=by
 simp[V4.right,ib,and_assoc]
def Au3 {u v:V4} (e:u.right=true) (f:v.right=true) (h:v.leq u):u.sub v=(⟨u.a-v.a,u.b-v.b,u.c-v.c,u.d-v.d⟩,0):=by
 have h1:=F9.1 e;have g:=F9.1 f;obtain⟨a,b,c,d⟩:=h;unfold V4.sub;rw[Ad ⟨e,f⟩];unfold V4.told;rw[Ad];rw[F9]
 refine⟨⟨?_,?_⟩,⟨?_,?_⟩,⟨?_,?_⟩,⟨?_,?_⟩⟩<;>simp only<;>omega
def Acq {u v:V4} (e:u.right=true) (f:v.right=true) (h:(⟨u.a+v.a,u.b+v.b,u.c+v.c,u.d+v.d⟩:V4).right=true):u.add v=(⟨u.a+v.a,u.b+v.b,u.c+v.c,u.d+v.d⟩,0):=by
 unfold V4.add;rw[Ad ⟨e,f⟩];unfold V4.told;rw[Ad h]
def Au4 {u v:V4} (e:u.right=true) (f:v.right=true) (h:¬(⟨u.a+v.a,u.b+v.b,u.c+v.c,u.d+v.d⟩:V4).right=true):(u.add v).2=30:=by
 unfold V4.add;rw[Ad ⟨e,f⟩];unfold V4.told;rw[Ac h]
def Au5 {l:List St} (b:Ct l) {i:Nat} (c:i<l.length):val l (nth l i).t=(nth l i).f:=
 Nf b.aw ⟨c,Dc _,λj d a=>b.aw i j d a⟩
structure Au6 (whole:V4) (S:Int->Prop) (F:Int->V4) (m:V4):Prop where
 low:∀u,S u->m.leq (F u)
 cap:m.leq whole
 a:m.a=whole.a\/∃u,S u/\m.a=(F u).a
 b:m.b=whole.b\/∃u,S u/\m.b=(F u).b
 c:m.c=whole.c\/∃u,S u/\m.c=(F u).c
 d:m.d=whole.d\/∃u,S u/\m.d=(F u).d
structure Au7 (S:Int->Prop) (F:Int->V4) (m:V4):Prop where
 high:∀u,S u->(F u).leq m
 a0:0<=m.a/\0<=m.b/\0<=m.c/\0<=m.d
 a:m.a=0\/∃u,S u/\m.a=(F u).a
 b:m.b=0\/∃u,S u/\m.b=(F u).b
 c:m.c=0\/∃u,S u/\m.c=(F u).c
 d:m.d=0\/∃u,S u/\m.d=(F u).d
def _root_.Go.Proofs.YtimlcnhcjndijaaGreatDoor.V4.leq.refl (u:V4):u.leq u:=⟨Dc _,Dc _,Dc _,Dc _⟩
def _root_.Go.Proofs.YtimlcnhcjndijaaGreatDoor.V4.leq.trans {u v x:V4} (h:u.leq v) (k:v.leq x):u.leq x:=⟨Xk h.1 k.1,Xk h.2.1 k.2.1,Xk h.2.2.1 k.2.2.1,Xk h.2.2.2 k.2.2.2⟩
def Ai6 (u v:V4):(u.least v).leq u/\(u.least v).leq v:=by
 simp only[V4.least,V4.leq];omega
def Ai7 (u v:V4):u.leq (u.ee v)/\v.leq (u.ee v):=by
 simp only[V4.ee,V4.leq];omega
def Au8 (v:V4) (l:List St):(E0 v l).leq v/\∀x∈l,(E0 v l).leq x.f:=by
 induction l generalizing v with
 | nil=>exact⟨V4.leq.refl _,as9⟩
 | cons s r ih=>
  obtain⟨h1,a⟩:=ih (v.least s.f);refine⟨h1.trans (Ai6 _ _).1,λx b=>?_⟩;rcases Fm.1 b with rfl|h
  .exact h1.trans (Ai6 _ _).2
  .exact a x h
def Au9 (v:V4) (l:List St):v.leq (Fg v l)/\∀x∈l,x.f.leq (Fg v l):=by
 induction l generalizing v with
 | nil=>exact⟨V4.leq.refl _,as9⟩
 | cons s r ih=>
  obtain⟨h1,a⟩:=ih (v.ee s.f);refine⟨(Ai7 _ _).1.trans h1,λx b=>?_⟩;rcases Fm.1 b with rfl|h
  .exact (Ai7 _ _).2.trans h1
  .exact a x h
def Ava (v:V4) (l:List St):((E0 v l).a=v.a\/∃x∈l,(E0 v l).a=x.f.a)/\((E0 v l).b=v.b\/∃x∈l,(E0 v l).b=x.f.b) /\
  ((E0 v l).c=v.c\/∃x∈l,(E0 v l).c=x.f.c)/\((E0 v l).d=v.d\/∃x∈l,(E0 v l).d=x.f.d):=by
 induction l generalizing v with
 | nil=>exact⟨.inl rfl,.inl rfl,.inl rfl,.inl rfl⟩
 | cons s r ih=>
  obtain⟨i,j,k,m⟩:=ih (v.least s.f);simp only[E0];refine⟨?_,?_,?_,?_⟩
  .rcases i with h|⟨x,g,h⟩
   .rw [h];simp only[V4.least];by_cases e:v.a<=s.f.a
    .exact .inl ao9
    .exact .inr ⟨s,as9,ao9⟩
   .exact .inr ⟨x,by simp[g],h⟩
  .rcases j with h|⟨x,g,h⟩
   .rw [h];simp only[V4.least];by_cases e:v.b<=s.f.b
    .exact .inl ao9
    .exact .inr ⟨s,as9,ao9⟩
   .exact .inr ⟨x,by simp[g],h⟩
  .rcases k with h|⟨x,g,h⟩
   .rw [h];simp only[V4.least];by_cases e:v.c<=s.f.c
    .exact .inl ao9
    .exact .inr ⟨s,as9,ao9⟩
   .exact .inr ⟨x,by simp[g],h⟩
  .rcases m with h|⟨x,g,h⟩
   .rw [h];simp only[V4.least];by_cases e:v.d<=s.f.d
    .exact .inl ao9
    .exact .inr ⟨s,as9,ao9⟩
   .exact .inr ⟨x,by simp[g],h⟩
def Avb (v:V4) (l:List St):((Fg v l).a=v.a\/∃x∈l,(Fg v l).a=x.f.a)/\((Fg v l).b=v.b\/∃x∈l,(Fg v l).b=x.f.b) /\
  ((Fg v l).c=v.c\/∃x∈l,(Fg v l).c=x.f.c)/\((Fg v l).d=v.d\/∃x∈l,(Fg v l).d=x.f.d):=by
 induction l generalizing v with
 | nil=>exact⟨.inl rfl,.inl rfl,.inl rfl,.inl rfl⟩
 | cons s r ih=>
  obtain⟨i,j,k,m⟩:=ih (v.ee s.f);simp only[Fg];refine⟨?_,?_,?_,?_⟩
  .rcases i with h|⟨x,g,h⟩
   .rw [h];simp only[V4.ee];by_cases e:s.f.a<=v.a
    .exact .inl ao9
    .exact .inr ⟨s,as9,ao9⟩
   .exact .inr ⟨x,by simp[g],h⟩
  .rcases j with h|⟨x,g,h⟩
   .rw [h];simp only[V4.ee];by_cases e:s.f.b<=v.b
    .exact .inl ao9
    .exact .inr ⟨s,as9,ao9⟩
   .exact .inr ⟨x,by simp[g],h⟩
  .rcases k with h|⟨x,g,h⟩
   .rw [h];simp only[V4.ee];by_cases e:s.f.c<=v.c
    .exact .inl ao9
    .exact .inr ⟨s,as9,ao9⟩
   .exact .inr ⟨x,by simp[g],h⟩
  .rcases m with h|⟨x,g,h⟩
   .rw [h];simp only[V4.ee];by_cases e:s.f.d<=v.d
    .exact .inl ao9
    .exact .inr ⟨s,as9,ao9⟩
   .exact .inr ⟨x,by simp[g],h⟩
def Ai8 {l:List St} (b:Ct l) {A B:Int} (hA:0<=A) (q:A<B):∃n,n<=(l.drop (pl l A)).length/\(∀j,j<n->(nth (l.drop (pl l A)) j).t<B)/\(n<(l.drop (pl l A)).length->B<=(nth (l.drop (pl l A)) n).t) /\
  (∀x∈(l.drop (pl l A)).take n,∃u,A<=u/\u<B/\x.f=val l u)/\(∀u,A<=u->u<B->∃x∈(l.drop (pl l A)).take n,val l u=x.f):=by
 obtain⟨k,d⟩:=U5 b hA;have v:=d.rk b.aw;rw[<-v]
 obtain⟨n,o,p,c⟩:∃n,n<=(l.drop k).length/\(∀j,j<n->(nth (l.drop k) j).t<B)/\(n<(l.drop k).length->B<=(nth (l.drop k) n).t):=by
  have y:∀n,n<=(l.drop k).length->(∃m,m<=(l.drop k).length/\(∀j,j<m->(nth (l.drop k) j).t<B)/\(m<(l.drop k).length->B<=(nth (l.drop k) m).t))\/(∀j,j<n->(nth (l.drop k) j).t<B):=by
   intro n
   induction n with
   | zero=>intro _;right;intro j a;omega
   | succ n ih=>
    intro hn;rcases ih ao9 with h|h
    .exact .inl h
    .by_cases r:(nth (l.drop k) n).t<B
     .right;intro j a;by_cases e:j=n
      .subst e;exact r
      .exact h j ao9
     .exact .inl ⟨n,ao9,h,λ_=>by omega⟩
  rcases y _ Ln with h|h
  .exact h
  .exact ⟨_,Nat.le_refl _,h,λh=>absurd h ao9⟩
 refine⟨n,o,p,c,λx hx=>?_,λu h1 h2=>?_⟩
 .obtain ⟨i,hi,rfl⟩:=S9 hx;rw[Fl,Iw]at hi;rw[Yz _ _ _ ao9,N8];have g:=p i ao9;rw[N8]at g;by_cases e:i=0
  .subst e;exact⟨A,Dc _,q,(Nf b.aw d).symm⟩
  .refine ⟨(nth l (k+i)).t,?_,g,(Au5 b ao9).symm⟩;have:=d.2.2 (k+i) ao9 ao9;omega
 .obtain ⟨j,a⟩:=U5 b (u:=u) ao9;have ad:k<=j:=by apply Gv;intro r;have:=a.2.2 k ao9 d.1;have:=d.2.1;omega
  have ac:=a.1
  have s:j-k<n:=by
   apply Gv;intro r;rw[Iw]at c o;have z:=c ao9;rw[N8]at z;by_cases e:k+n=j
   .rw [e]at z;have:=a.2.1;omega
   .have:=b.aw (k+n) j ao9 a.1;have:=a.2.1;omega
  refine⟨nth ((l.drop k).take n) (j-k),Acm (by rw[Fl,Iw];omega),?_⟩;rw[Yz _ _ _ s,N8,show k+(j-k)=j by omega];exact Nf b.aw a
def Avc  {l:List St} (i:Ct l) (fr f:Int):Au6 whole (λu=>max fr 0<=u/\u<min f 1099511627776) (val l) (Me whole l fr f):=by
 unfold Me;by_cases h:min f 1099511627776<=max fr 0
 .rw [Ad h];exact⟨λu g=>by omega,⟨Dc _,Dc _,Dc _,Dc _⟩,.inl rfl,.inl rfl,.inl rfl,.inl rfl⟩
 .rw [Ac h];obtain⟨n,q,r,s,d,t⟩:=Ai8 i (A:=max fr 0) (B:=min f 1099511627776) ao9 ao9;rw[Aio _ _ n q whole r s];obtain⟨j,k⟩:=Au8 whole ((l.drop (pl l (max fr 0))).take n);obtain⟨m,o,mc,p⟩:=Ava whole ((l.drop (pl l (max fr 0))).take n);refine⟨λu g=>?_,j,?_,?_,?_,?_⟩
  .obtain ⟨x,a,e⟩:=t u g.1 g.2;rw[e];exact k x a
  .rcases m with h|⟨x,a,h⟩
   .exact .inl h
   .obtain ⟨u,b,c,e⟩:=d x a;exact .inr ⟨u,⟨b,c⟩,by rw[h,e]⟩
  .rcases o with h|⟨x,a,h⟩
   .exact .inl h
   .obtain ⟨u,b,c,e⟩:=d x a;exact .inr ⟨u,⟨b,c⟩,by rw[h,e]⟩
  .rcases mc with h|⟨x,a,h⟩
   .exact .inl h
   .obtain ⟨u,b,c,e⟩:=d x a;exact .inr ⟨u,⟨b,c⟩,by rw[h,e]⟩
  .rcases p with h|⟨x,a,h⟩
   .exact .inl h
   .obtain ⟨u,b,c,e⟩:=d x a;exact .inr ⟨u,⟨b,c⟩,by rw[h,e]⟩
def Ai9 {l:List St} (i:Ct l) {fr f:Int} (h0:0<=fr) (h1:fr<f):Au7 (λu=>fr<=u/\u<f) (val l) (F8 l fr f):=by
 unfold F8;obtain⟨n,q,r,s,d,t⟩:=Ai8 i h0 h1;rw[Aiq _ _ n q V4.zero r s];obtain⟨j,k⟩:=Au9 V4.zero ((l.drop (pl l fr)).take n);obtain⟨m,o,mc,p⟩:=Avb V4.zero ((l.drop (pl l fr)).take n);refine⟨λu g=>?_,j,?_,?_,?_,?_⟩
 .obtain ⟨x,a,e⟩:=t u g.1 g.2;rw[e];exact k x a
 .rcases m with h|⟨x,a,h⟩
  .exact .inl h
  .obtain ⟨u,b,c,e⟩:=d x a;exact .inr ⟨u,⟨b,c⟩,by rw[h,e]⟩
 .rcases o with h|⟨x,a,h⟩
  .exact .inl h
  .obtain ⟨u,b,c,e⟩:=d x a;exact .inr ⟨u,⟨b,c⟩,by rw[h,e]⟩
 .rcases mc with h|⟨x,a,h⟩
  .exact .inl h
  .obtain ⟨u,b,c,e⟩:=d x a;exact .inr ⟨u,⟨b,c⟩,by rw[h,e]⟩
 .rcases p with h|⟨x,a,h⟩
  .exact .inl h
  .obtain ⟨u,b,c,e⟩:=d x a;exact .inr ⟨u,⟨b,c⟩,by rw[h,e]⟩
def N9 (u v:V4):V4:=⟨u.a-v.a,u.b-v.b,u.c-v.c,u.d-v.d⟩
def Aq (u v:V4):V4:=⟨u.a+v.a,u.b+v.b,u.c+v.c,u.d+v.d⟩
def Aja  {l:List St} (k:Inv whole l) {fr g:Int} (h0:0<=fr) (h1:fr<g) (n:g<=1099511627776) (v:V4) :
  v.leq (Me whole l fr g)↔∀u,fr<=u->u<g->v.leq (val l u):=by
 have i:=Avc (whole:=whole) k.loose fr g;constructor
 .intro h u a b;exact h.trans (i.low u ⟨ao9,ao9⟩)
 .intro h;have m:∀u,fr<=u->u<g->(val l u).leq whole:=λu a b=>Mf.1 (k.free u ao9 ao9).2;have f:=(h fr (Dc _) h1).trans (m fr (Dc _) h1);refine⟨?_,?_,?_,?_⟩
  .rcases i.a with e|⟨u,j,e⟩
   .rw [e];exact f.1
   .rw [e];exact(h u ao9 ao9).1
  .rcases i.b with e|⟨u,j,e⟩
   .rw [e];exact f.2.1
   .rw [e];exact(h u ao9 ao9).2.1
  .rcases i.c with e|⟨u,j,e⟩
   .rw [e];exact f.2.2.1
   .rw [e];exact(h u ao9 ao9).2.2.1
  .rcases i.d with e|⟨u,j,e⟩
   .rw [e];exact f.2.2.2
   .rw [e];exact(h u ao9 ao9).2.2.2
def Ajb  {l:List St} (j:Inv whole l) {fr i:Int} (h0:0<=fr) (h1:fr<i) (h2:i<=1099511627776) (v:V4) :
  (Aq (F8 l fr i) v).leq whole↔∀u,fr<=u->u<i->(Aq (val l u) v).leq whole:=by
 have g:=Ai9 j.loose h0 h1;have x:=λu (a:fr<=u) (b:u<i)=>F9.1 (j.free u ao9 ao9).1;constructor
 .intro h u a b;have:=g.high u ⟨a,b⟩;obtain⟨a1,a2,a3,z⟩:=this;obtain⟨k,m,n,o⟩:=h;simp only[Aq]at k m n o
  refine⟨?_,?_,?_,?_⟩<;>simp only[Aq]<;>omega
 .intro h;have t:=h fr (Dc _) h1;have y:=x fr (Dc _) h1;obtain⟨p,q,r,s⟩:=t;simp only[Aq]at p q r s;refine⟨?_,?_,?_,?_⟩
  .rcases g.a with e|⟨u,f,e⟩
   .simp only[Aq];omega
   .have:=(h u f.1 f.2).1;simp only[Aq]at this ⊢;omega
  .rcases g.b with e|⟨u,f,e⟩
   .simp only[Aq];omega
   .have:=(h u f.1 f.2).2.1;simp only[Aq]at this ⊢;omega
  .rcases g.c with e|⟨u,f,e⟩
   .simp only[Aq];omega
   .have:=(h u f.1 f.2).2.2.1;simp only[Aq]at this ⊢;omega
  .rcases g.d with e|⟨u,f,e⟩
   .simp only[Aq];omega
   .have:=(h u f.1 f.2).2.2.2;simp only[Aq]at this ⊢;omega
def Ajc  {l:List St} (j:Inv whole l) {fr i:Int} (h0:0<=fr) (h1:fr<i) (p:i<=1099511627776):(F8 l fr i).right=true:=by
 have g:=Ai9 j.loose h0 h1;have h:=λu (a:fr<=u) (b:u<i)=>F9.1 (j.free u ao9 ao9).1;obtain⟨k,m,n,o⟩:=g.a0;rw[F9];refine⟨⟨k,?_⟩,⟨m,?_⟩,⟨n,?_⟩,⟨o,?_⟩⟩
 .rcases g.a with e|⟨u,f,e⟩
  .omega
  .have:=h u f.1 f.2;omega
 .rcases g.b with e|⟨u,f,e⟩
  .omega
  .have:=h u f.1 f.2;omega
 .rcases g.c with e|⟨u,f,e⟩
  .omega
  .have:=h u f.1 f.2;omega
 .rcases g.d with e|⟨u,f,e⟩
  .omega
  .have:=h u f.1 f.2;omega
def Rj (l:List St) (fr tt:Int) (v:V4) (r:Int) (l':List St):Prop:=
 (Bb fr tt v=false/\r=1/\l'=l)\/(Bb fr tt v=true/\¬(∀u,fr<=u->u<tt->v.leq (val l u))/\r=60/\l'=l) \/
  (Bb fr tt v=true/\(∀u,fr<=u->u<tt->v.leq (val l u))/\r=0/\∀u,0<=u->u<1099511627776->val l' u=if fr<=u/\u<tt then N9 (val l u) v else val l u)
def Rk (whole:V4) (l:List St) (fr tt:Int) (v:V4) (r:Int) (l':List St):Prop:=
 (Bb fr tt v=false/\r=1/\l'=l)\/(Bb fr tt v=true/\¬(∀u,fr<=u->u<tt->(Aq (val l u) v).leq whole)/\r=61/\l'=l) \/
  (Bb fr tt v=true/\(∀u,fr<=u->u<tt->(Aq (val l u) v).leq whole)/\r=0/\∀u,0<=u->u<1099511627776->val l' u=if fr<=u/\u<tt then Aq (val l u) v else val l u)
def Ajd  {l o:List St} {fr j:Int} {v:V4} {r:Int} (c:Inv whole l) (h:Ait whole l fr j v r o):Inv whole o/\Rj l fr j v r o:=by
 rcases h with⟨h1,g,i⟩|⟨h1,g,i,q⟩|⟨h1,g,i,q⟩
 .rw [i];exact⟨c,.inl ⟨h1,g,rfl⟩⟩
 .obtain ⟨k,m,n,p⟩:=Nc h1;rw[q];exact⟨c,.inr (.inl ⟨h1,λy=>Au2.1 g ((Aja c k m n v).2 y),i,rfl⟩)⟩
 .obtain ⟨k,m,n,p⟩:=Nc h1;have a:=(Aja c k m n v).1 (Mf.1 g);obtain⟨s,t,x⟩:=Ai5 c.loose q k m n
  have d:∀u,0<=u->u<1099511627776->val o u=if fr<=u/\u<j then N9 (val l u) v else val l u:=by
   intro u e f;rw[x u e f];by_cases b:fr<=u/\u<j
   .rw [Ad b,Ad b,Au3 (c.free u e f).1 p (a u b.1 b.2)];rfl
   .rw [Ac b,Ac b]
  refine⟨⟨c.right,s,t,λu e f=>?_⟩,.inr (.inr ⟨h1,a,i,d⟩)⟩;rw[d u e f];by_cases b:fr<=u/\u<j
  .rw [Ad b];have q1:=F9.1 (c.free u e f).1;have z:=Mf.1 (c.free u e f).2;have q3:=a u b.1 b.2;have q4:=F9.1 p;obtain⟨a1,a2,a3,a4⟩:=z;obtain⟨d1,d2,d3,d4⟩:=q3;rw[F9,Mf]
   refine⟨⟨⟨?_,?_⟩,⟨?_,?_⟩,⟨?_,?_⟩,⟨?_,?_⟩⟩,?_,?_,?_,?_⟩<;>simp only[N9]<;>omega
  .rw [Ac b];exact c.free u e f
def Aje  {l l':List St} {fr e:Int} {v:V4} {r:Int} (f:Inv whole l) (h:Aiv whole l fr e v r l'):Inv whole l'/\Rk whole l fr e v r l':=by
 rcases h with⟨h1,z,y⟩|⟨h1,z,y,h4⟩|⟨h1,z,x,y,h4⟩
 .rw [y];exact⟨f,.inl ⟨h1,z,rfl⟩⟩
 .obtain ⟨q,s,t,p⟩:=Nc h1;rw[h4];refine⟨f,.inr (.inl ⟨h1,λhh=>z ?_,y,rfl⟩)⟩;have hm:=(Ajb f q s t v).2 hh;have j:=Ajc f q s t;have q1:=F9.1 j;have q2:=F9.1 p;have q3:=F9.1 f.right;obtain⟨e1,e2,e3,e4⟩:=hm;simp only[Aq]at e1 e2 e3 e4
  have hr:(⟨(F8 l fr e).a+v.a,(F8 l fr e).b+v.b,(F8 l fr e).c+v.c,(F8 l fr e).d+v.d⟩:V4).right=true:=by rw[F9];refine⟨⟨?_,?_⟩,⟨?_,?_⟩,⟨?_,?_⟩,⟨?_,?_⟩⟩<;>simp only<;>omega
  rw[Acq j p hr];exact⟨rfl,Mf.2 ⟨e1,e2,e3,e4⟩⟩
 .obtain ⟨q,s,t,p⟩:=Nc h1;have j:=Ajc f q s t;have hr:(⟨(F8 l fr e).a+v.a,(F8 l fr e).b+v.b,(F8 l fr e).c+v.c,(F8 l fr e).d+v.d⟩:V4).right=true:=by apply Gv;intro hc;have:=Au4 j p hc;omega
  rw[Acq j p hr]at x;have i:=(Ajb f q s t v).1 (Mf.1 x);obtain⟨c1,c2,c3⟩:=Ai5 f.loose h4 q s t;have ac:=F9.1 f.right;have q4:=F9.1 p
  have n:∀u,0<=u->u<1099511627776->fr<=u->u<e->(Aq (val l u) v).right=true:=by
   intro u k m u2 u3;have q1:=F9.1 (f.free u k m).1;obtain⟨d1,d2,d3,d4⟩:=i u u2 u3;simp only[Aq]at d1 d2 d3 d4;rw[F9]
   refine⟨⟨?_,?_⟩,⟨?_,?_⟩,⟨?_,?_⟩,⟨?_,?_⟩⟩<;>simp only[Aq]<;>omega
  have o:∀u,0<=u->u<1099511627776->val l' u=if fr<=u/\u<e then Aq (val l u) v else val l u:=by
   intro u k m;rw[c3 u k m];by_cases g:fr<=u/\u<e
   .rw [Ad g,Ad g,Acq (f.free u k m).1 p (n u k m g.1 g.2)];rfl
   .rw [Ac g,Ac g]
  refine⟨⟨f.right,c1,c2,λu k m=>?_⟩,.inr (.inr ⟨h1,i,y,o⟩)⟩;rw[o u k m];by_cases g:fr<=u/\u<e
  .rw [Ad g];exact⟨n u k m g.1 g.2,Mf.2 (i u g.1 g.2)⟩
  .rw [Ac g];exact f.free u k m
def Avd  (h:whole.right=true):Inv whole [⟨0,whole⟩]:=by
 refine⟨h,⟨as9,rfl,λi j b c=>by simp at c;omega,λi a=>?_⟩,λi a=>by simp at a,λu d e=>?_⟩
 .have:i=0:=by simpa using a
  subst this;simp[nth]
 .have:val [⟨0,whole⟩] u=whole:=by simp[val,Fw,d]
  rw[this];exact⟨h,Mf.2 (V4.leq.refl _)⟩
structure Nd where
 pb:Nat
 sb:Nat
 cap:Nat
 whole:V4
 l:List St
def Nd.none:Nd:=⟨0,0,0,V4.zero,[]⟩
def nd (ps:List Nd) (i:Nat):Nd:=ps.getD i Nd.none
def Ng {a:List Nd} {i:Nat} (x:Nd) (b:i<a.length) (j:Nat):nd (a.set i x) j=if j=i then x else nd a j:=by
 unfold nd;by_cases h:j=i
 .subst h;rw[Ad rfl];simp[List.getD,b]
 .rw [Ac h];simp[List.getD,Qy h]
def Bm (ps:List Nd) (b:Nat):Prop:=∃i,i<ps.length/\(b=(nd ps i).pb\/b=(nd ps i).sb)
structure Cc (w:WD) (gb gs:Nat) (ao:Option Addr) (cap:Nat) (ps:List Nd):Prop where
 head:w.heap[gb]?=O (J #[V ao ps.length cap] 354 (0,0))
 addr:0<ps.length->ao=O ⟨gs,0,I⟩
 ptr:∀i,i<ps.length->w.cell? ⟨gs,i,I⟩=O (K (O ⟨(nd ps i).pb,0,I⟩))
 gj:∀i,i<ps.length->Cx w (nd ps i).pb (nd ps i).sb (nd ps i).cap (nd ps i).whole (nd ps i).l
 inv:∀i,i<ps.length->Inv (nd ps i).whole (nd ps i).l
 apart:∀i j,i<ps.length->j<ps.length->i≠j->(nd ps i).pb≠(nd ps j).pb/\(nd ps i).pb≠(nd ps j).sb/\(nd ps i).sb≠(nd ps j).sb
 own:∀i,i<ps.length->(nd ps i).pb≠gb/\(nd ps i).sb≠gb/\(nd ps i).pb≠gs/\(nd ps i).sb≠gs
 j8:ps.length<=16
def Cc.tf  {d a cap:Nat} {c:Option Addr} {b:List Nd} (h:Cc w d a c cap b) (h0:0<b.length):a<w.heap.size:=T3 w _ (h.ptr 0 h0)
def Cc.below  {d e cap:Nat} {c:Option Addr} {f:List Nd} (h:Cc w d e c cap f) (b:BW w.heap.size w w'):Cc w' d e c cap f:=
 ⟨Ae b h.head (Ab h.head),h.addr,λi a=>(Af b (T3 w _ (h.ptr i a))).trans (h.ptr i a),λi a=>(h.gj i a).below b (h.gj i a).lt.1 (h.gj i a).lt.2,h.inv,h.apart,h.own,h.j8⟩
def Cc.l9  {e f cap:Nat} {d:Option Addr} {c:List Nd} (h:Cc w e f d cap c) {b:Nat} (g:Bm c b):b<w.heap.size:=by
 obtain⟨i,a,rfl|rfl⟩:=g
 .exact (h.gj i a).lt.1
 .exact (h.gj i a).lt.2
def Cc.fy  {v s cap:Nat} {ao:Option Addr} {l:List Nd} (h:Cc w v s ao cap l) {i o p:Nat} {z:List St} (m:i<l.length)
  (hp:Cx w' (nd l i).pb o p (nd l i).whole z) (hl:Inv (nd l i).whole z) (r:o=(nd l i).sb\/w.heap.size<=o) (t:Mod (λb=>b=(nd l i).pb\/b=(nd l i).sb) w w') :
  Cc w' v s ao cap (l.set i ⟨(nd l i).pb,o,p,(nd l i).whole,z⟩):=by
 have x:=Ab h.head;have y:=h.tf ao9;have u:=h.own i m;refine⟨?_,?_,?_,?_,?_,?_,?_,?_⟩
 .rw [Dy];exact(t.block v x (by rintro(e|e)<;>omega)).trans h.head
 .rw [Dy];exact h.addr
 .intro j d;rw[Dy]at d;rw[Ng _ m];have:=(By (a:=⟨s,j,I⟩) (w:=w) (t.block s y (by rintro(e|e)<;>omega))).trans (h.ptr j d);split
  .rename_i e;subst e;exact this
  .exact this
 .intro j d;rw[Dy]at d;rw[Ng _ m];split
  .exact hp
  .rename_i e;have g:=h.gj j d;have f:=h.apart i j m d (λc=>e c.symm);have hb:=h.apart j i d m e;have h1:=t.block _ g.lt.1 (by rintro(c|c);exact f.1 c.symm;exact hb.2.1 c);have h2:=t.block _ g.lt.2 (by rintro(c|c);exact f.2.1 c.symm;exact f.2.2 c.symm);exact⟨h1.trans g.head,g.row.of_block h2,g.ne⟩
 .intro j d;rw[Dy]at d;rw[Ng _ m];split
  .exact hl
  .exact h.inv j d
 .intro j k d q n;rw[Dy]at d q;rw[Ng _ m,Ng _ m];by_cases e1:j=i
  .subst e1;rw[Ad rfl,Ac (Qy n)];have f:=h.apart j k d q n;refine⟨f.1,f.2.1,?_⟩;rcases r with e|e
   .simp only[e];exact f.2.2
   .have:=(h.gj k q).lt.2;simp only;omega
  .rw [Ac e1];by_cases e2:k=i
   .subst e2;rw[Ad rfl];have f:=h.apart j k d q n;refine⟨f.1,?_,?_⟩
    .rcases r with e|e
     .simp only[e];exact f.2.1
     .have:=(h.gj j d).lt.1;simp only;omega
    .rcases r with e|e
     .simp only[e];exact f.2.2
     .have:=(h.gj j d).lt.2;simp only;omega
   .rw [Ac e2];exact h.apart j k d q n
 .intro j d;rw[Dy]at d;rw[Ng _ m];split
  .refine ⟨u.1,?_,u.2.2.1,?_⟩
   .rcases r with e|e
    .simp only[e];exact u.2.1
    .simp only;omega
   .rcases r with e|e
    .simp only[e];exact u.2.2.2
    .simp only;omega
  .exact h.own j d
 .rw [Dy];exact h.j8
def zi (zs:List Int) (i:Nat):Int:=zs.getD i 0
structure At (w:WD) (ao:Option Addr) (n:Nat) (zs:List Int):Prop where
 len:zs.length=n
 max:n<=9223372036854775807
 cell:∀i,i<n->∃b off,ao=O ⟨b,off,I⟩/\b<w.heap.size/\w.cell? ⟨b,off+i,I⟩=O (Z G (zi zs i))
def vw (ao:Option Addr) (S:Nat->Prop):Prop:=∀b off,ao=O ⟨b,off,I⟩->¬S b
def At.below  {d:Option Addr}   (h:At w d n zs) {B:Nat} (f:BW B w w') (k:w.heap.size<=B):At w' d n zs:=
 ⟨h.len,h.max,λi j=>by
  obtain⟨b,c,e,a,g⟩:=h.cell i j
  exact⟨b,c,e,Bq a f.size,(Af f ao9).trans g⟩⟩
def At.mod  {f:Option Addr}   {S:Nat->Prop} (h:At w f n zs) (g:Mod S w w') (l:0<n->vw f S):At w' f n zs:=
 ⟨h.len,h.max,λi k=>by
  obtain⟨b,c,e,d,j⟩:=h.cell i k
  exact⟨b,c,e,Bq d g.size,(By (a:=⟨b,c+i,I⟩) (w:=w) (g.block b d (l ao9 b c e))).trans j⟩⟩
structure Cy (n:Nat) (zs:List Int):Prop where
 pos:0<zs.length
 low:∀i,i<zs.length->0<=zi zs i
 high:∀i,i<zs.length->zi zs i<n
 aw:∀i,i+1<zs.length->zi zs i<zi zs (i+1)
def Ave (n:Nat) (zs:List Int) (w:WD) (e:Ending) (w':WD):Prop:=
 ∃b:Bool,e=Y (Q b)/\(b=true↔Cy n zs)/\BW w.heap.size w w'
def Avf (gb gs cap:Nat) (po:Option Addr) (ps:List Nd) (ao:Option Addr) (m c:Nat) (zs:List Int) (w:WD) (hp:Cc w gb gs po cap ps) (v:At w ao m zs) :
  Calls prog 284 #[K (O ⟨gb,0,I⟩),V ao m c] w (Ave ps.length zs w):=by
 obtain⟨n,hn⟩:=Ex (ps.length);have hh:=hp.head;have ac:=hp.j8;rw[<-hn]at hh ac;have c0:=Aa hh 0;simp at c0;have am:=Ab hh;rw[<-hn];clear hp hh hn;have f:=v.len;have an:=v.max;replace⟨v,f⟩:=H2 v f;by_cases h0:m=0
 .have d0:((m:Int) == 0)=true:=by rw[h0];rfl
  replace h0:=Hh h0;go_enter func284,ntmps284;go_wp2;go_ret;exact⟨false,rfl,⟨λh=>by simp at h,λh=>by have:=h.pos;have:=f.out;have:=h0.out;omega⟩,Below.refl _ _⟩
 have d0:((m:Int) == 0)=false:=Br.2 ao9;have aE:0<m:=ao9
 replace h0:=Hh h0;go_enter func284,ntmps284;go_wp2;go_loopw [5,6,16] (λ_ _ i wr=>∃k:Nat,i=Z G k/\k<=m/\Hid (∀i,i<k->0<=zi zs i/\zi zs i<n/\(∀j,i=j+1->zi zs j<zi zs i))/\Hid (BW w.heap.size w wr)) (λ_ _ i _=>m-(intOf i).toNat)
 case atStart=>exact⟨0,rfl,As _,(λi h=>by omega),Below.refl _ _⟩
 case round=>
  obtain⟨k,rfl,hk,l,g⟩:=hrel;have g0:=(Af (o:=0) g.out am).trans c0;by_cases hc:k<m
  .have al:(k:Int)<m:=ao9;have aC:(0:Int)<=(k:Int):=ao9;obtain⟨b,aG,rfl,hb,a0⟩:=v.cell k hc;have b0:=(Af g.out hb).trans a0;clear a0;obtain⟨x,q⟩:=Ex (zi zs k);rw[<-q]at b0;replace q:=Hh q
   have s:Hid (¬(0<=x/\x<n/\∀j,k=j+1->zi zs j<x)->¬Cy n zs):=λh hg=>by
    have u:k<zs.length:=(by rw[f.out];exact hc);refine h ⟨by rw[q.out];exact hg.low k u,by rw[q.out];exact hg.high k u,λj e=>?_⟩;subst e;rw[q.out];exact hg.aw j u
   by_cases p:x<0
   .have d1:decide (x<0)=true:=(by simpa using p);have a:=s ao9;replace⟨p,a⟩:=H2 p a;go_wp2;go_ret;exact⟨false,rfl,⟨λh=>by simp at h,λh=>absurd h a.out⟩,g.out⟩
   have d1:decide (x<0)=false:=(by simpa using p);by_cases r:(n:Int)<=x
   .have d2:decide ((n:Int)<=x)=true:=(by simpa using r);have a:=s ao9;replace⟨p,r,a⟩:=H3 p r a;go_wp2;go_ret;exact⟨false,rfl,⟨λh=>by simp at h,λh=>absurd h a.out⟩,g.out⟩
   have d2:decide ((n:Int)<=x)=false:=by simpa using r
   cases k with
   | zero=>
    rw[Jo]at b0
    have d:∀i,i<0+1->0<=zi zs i/\zi zs i<n/\(∀j,i=j+1->zi zs j<zi zs i):=by
     intro i t
     have:i=0:=ao9
     subst this;exact⟨by rw[<-q.out];omega,by rw[<-q.out];omega,λj e=>by omega⟩
    replace⟨p,r,d⟩:=H3 p r d;go_wp2;go_roundw
    case rel=>exact⟨0+1,by go_num,ao9,d.out,g.out⟩
    case measure=>simp[intOf];omega
   | succ j=>
    obtain⟨b',ap,e',ad,a1⟩:=v.cell j ao9;cases e';have b1:=(Af g.out ad).trans a1;clear a1;obtain⟨y,hy⟩:=Ex (zi zs j);rw[<-hy]at b1;replace hy:=Hh hy;have ej:IntKind.i64.wrap (((j+1:Nat):Int)-1)=(j:Int):=(by rw[D4 _ ao9];omega);have av:IntKind.i64.wrap ((j:Int)+1-1)=(j:Int):=(by rw[D4 _ ao9];omega);have aB:(j:Int)<m:=ao9;have aA:(0:Int)<=(j:Int):=ao9;have aF:(0:Int)<(j:Int)+1:=ao9;by_cases z:x<=y
    .have d3:decide (x<=y)=true:=(by simpa using z);have a:=s (λh=>by have:=h.2.2 j rfl;rw[<-hy.out]at this;omega);replace⟨p,r,z,a⟩:=H4 p r z a;go_wp2;go_ret;exact⟨false,rfl,⟨λh=>by simp at h,λh=>absurd h a.out⟩,g.out⟩
    .have d3:decide (x<=y)=false:=by simpa using z
     have d:∀i,i<j+1+1->0<=zi zs i/\zi zs i<n/\(∀j,i=j+1->zi zs j<zi zs i):=by
      intro i t;by_cases e:i=j+1
      .subst e;refine⟨by rw[<-q.out];omega,by rw[<-q.out];omega,λj2 e=>?_⟩
       have:j2=j:=ao9
       subst this;rw[<-q.out,<-hy.out];omega
      .exact l.out i ao9
     replace⟨p,r,z,d⟩:=H4 p r z d;go_wp2;go_roundw
     case rel=>exact⟨j+1+1,by go_num,ao9,d.out,g.out⟩
     case measure=>simp[intOf];omega
  .have al:¬(k:Int)<m:=ao9;have aD:k=m:=ao9;go_wp2;go_ret;refine⟨true,rfl,⟨λ_=>⟨by rw[f.out];omega,λi t=>?_,λi t=>?_,λi t=>?_⟩,λ_=>rfl⟩,g.out⟩
   .rw [f.out]at t;exact(l i ao9).1
   .rw [f.out]at t;exact(l i ao9).2.1
   .rw [f.out]at t;exact(l (i+1) ao9).2.2 i rfl
