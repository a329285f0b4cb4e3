/- Parts of a proof. No condition. -/
import Derived.Test.YtimlcnhcjndijaaGreatDoorG22
import Derived.Deep.DeepCutAuto
set_option linter.all false
set_option maxRecDepth 100000
set_option maxHeartbeats 1600000
namespace Go.Proofs.YtimlcnhcjndijaaGreatDoor
open Option renaming none->I,some->Z
open Value renaming pointer->Q,int->G,tuple->E,slice->J,bool->D
open IntKind renaming i64->O
open Obj renaming cells->V
open Ending renaming returned->K
open Go renaming World->WD
open Go.RowKit renaming Below->BW
open Go.Proofs.Tryz
namespace Pl
open Go.RowKit
variable{zs:List Int}{k n:Nat}{whole:V4}{w w':WD}
def Ai1 (whole:V4) (l:List St) (fr tt:Int) (v:V4) (r:Int) (l':List St):Prop:=
 (Bm fr tt v=false/\r=1/\l'=l)\/(Bm fr tt v=true/\¬(((Fi l fr tt).add v).2=0/\((Fi l fr tt).add v).1.fits whole=true)/\r=61/\l'=l) \/
  (Bm fr tt v=true/\((Fi l fr tt).add v).2=0/\((Fi l fr tt).add v).1.fits whole=true/\r=0/\Rc l fr tt (λf=>(f.add v).1) l')
def Tg {W w1:WD} (a:BW W.heap.size W w1):(∀b o,b<W.heap.size->w1.cell? ⟨b,o,I⟩=W.cell? ⟨b,o,I⟩)/\(∀b o,b<W.heap.size->w1.frozen? ⟨b,o,I⟩=W.frozen? ⟨b,o,I⟩):=
 ⟨λb o h=>a.cell (p:=⟨b,o,I⟩) h,λb o h=>a.frozen (p:=⟨b,o,I⟩) h⟩
def Ai2 (B:Nat) (w:WD) (n:Nat):BW B w (w.drewN n):=⟨rfl,rfl,rfl,Nat.le_refl _,λ_ _=>rfl⟩
def Y2 (w2:WD) (r:V4×Int) (s9 s10:Value) (wx:WD):Prop:=
 ∃g:Nat,s9=Q (Z ⟨g,0,I⟩)/\s10=G O r.2/\w2.heap.size<=g/\wx.heap[g]?=Z (V r.1.cells 30 (0,0))/\BW w2.heap.size w2 wx
def World.sd (w:WD) (b:Nat) (v:V4):WD:=
 (((w.setCell ⟨b,0,I⟩ (G O v.a)).setCell ⟨b,1,I⟩ (G O v.b)).setCell ⟨b,2,I⟩ (G O v.c)).setCell ⟨b,3,I⟩ (G O v.d)
def Ai3  {b:Nat} {u:V4} (h:w.heap[b]?=Z (V u.cells 30 (0,0))) (v:V4):(World.sd w b v).heap[b]?=Z (V v.cells 30 (0,0)):=by
 unfold World.sd;rw[Am (Am (Am (Am h _ _) _ _) _ _) _ _];simp
def Ai4 {B:Nat}  (h:BW B w w') {b:Nat} (a:B<=b) (v:V4):BW B w (World.sd w' b v):=
 (((h.setCell a _).setCell a _).setCell a _).setCell a _
def At2 {c d e:WD} {r:V4×Int} (a:BW c.drew.heap.size c.drew d) (b:BW d.heap.size d e) :
  Y2 c r (Q (Z ⟨e.heap.size,0,I⟩)) (G O r.2) (e.alloc (V r.1.cells 30)):=by
 have f:=(If a).size;have g:=b.size;exact⟨_,rfl,rfl,ao9,Ah _ _,((If a).trans (b.mono f)).alloc (by show c.heap.size<=_;omega) _⟩
def At3 {e c f:WD} {r:V4×Int} (b:BW e.drew.heap.size e.drew c) (a:BW (c.alloc (V V4.zero.cells 30)).heap.size (c.alloc (V V4.zero.cells 30)) f) :
  Y2 e r (Q (Z ⟨c.heap.size,0,I⟩)) (G O r.2) (World.sd f c.heap.size r.1):=by
 have d:=(If b).size;have g:=a.size;simp at g;refine⟨_,rfl,rfl,d,Ai3 (Ae a (Ah _ _) as9) _,Ai4 ?_ d _⟩;exact((If b).alloc d _).trans (a.mono (by simp;exact Nat.le_succ_of_le d))
def At4 {c e f:WD} {r:V4×Int} (d:BW (c.alloc (V V4.zero.cells 30)).drew.heap.size (c.alloc (V V4.zero.cells 30)).drew e) (b:BW e.heap.size e f) :
  Y2 c r (Q (Z ⟨c.heap.size,0,I⟩)) (G O r.2) (World.sd f c.heap.size r.1):=by
 have a:=If d;have g:=a.size;simp at g;refine⟨_,rfl,rfl,Nat.le_refl _,Ai3 (Ae b (Ae a (Ah _ _) as9) ao9) _,Ai4 ?_ Ln _⟩;exact(Bn.trans (a.mono as9)).trans (b.mono ao9)
def Ai5 (pb x cap:Nat) (whole:V4) (l:List St) (fr y:Int) (v:V4) (w:WD) (hp:Ci w pb x cap whole l) (hl:Ce l) :
  Calls prog 243 #[Q (Z ⟨pb,0,I⟩),G O fr,G O y,v.val] w (Acm pb x whole (Ai1 whole l fr y v) w):=by
 obtain⟨av,aA⟩:=hp.lt;replace⟨hp,hl⟩:=H2 hp hl;go_enter func243,ntmps243;go_wp2_with fail;refine(Aiy fr y v _).mono ?_;rintro e w2 ⟨rfl,z⟩;have i:=Bn.trans (z.mono as9);have g2:=Ae z (Ah _ _) as9;have d:=hp.below i av aA;have s2:=i.size;have aK:=Ab g2;replace⟨z,i,d⟩:=H3 z i d;by_cases hs:Bm fr y v=true
 .rw [hs];obtain⟨b1,b2,b3,b4⟩:=Mq hs;have x0:=Aa g2 0;have x1:=Aa g2 1;have x2:=Aa g2 2;have x3:=Aa g2 3;simp at x0 x1 x2 x3;replace⟨g2,hs,b4⟩:=H3 g2 hs b4;have aI:Hid (Ci w2.drew pb x cap whole l):=d.drew;have aJ:Hid (∀o,Ci (w2.alloc o).drew pb x cap whole l):=λo=>(d.below ((Below.refl _ _).alloc Ln o) d.lt.1 d.lt.2).drew;obtain⟨r,hr⟩:=Ex ((Fi l fr y).add v)
  have q:∀w,Calls prog 281 #[(Fi l fr y).val,v.val] w λe w'=>e=K (E #[r.1.val,G O r.2])/\BW w.heap.size w w':=by rw[hr];exact Aig _ _
  replace⟨q,hr⟩:=H2 q hr;have aQ:w.heap.size<w2.heap.size+1:=ao9
  go_upto_region 3 with fail;go_cut [9,10] (λs9 aL wx=>Y2 w2 r s9 aL wx)
  case first=>
   go_region_law
    (first
      | (go_simp;go_at_call 282
         (first
           | refine(Aix pb x cap whole l fr y _ aI.out hl.out b1 ao9).mono ?_
           | refine(Aix pb x cap whole l fr y _ (aJ _) hl.out b1 ao9).mono ?_)
         rintro e w3 ⟨rfl,b⟩;have s3:=b.size;obtain⟨aC,aG⟩:=Tg b
         (try simp at s3)
         (try simp at aC)
         (try simp at aG)
         have aR:w.heap.size<w3.heap.size:=ao9
         (try have aN:w2.heap.size<w3.heap.size:=by omega)
         replace b:=Hh b)
      | (go_simp;go_at_call 281;refine(q _).mono ?_;rintro e w4 ⟨rfl,c⟩;have s4:=c.size;obtain⟨aD,aH⟩:=Tg c
         (try simp at s4)
         (try simp at aD)
         (try simp at aH)
         (try have aO:w3.heap.size<w4.heap.size:=by omega)
         (try have aP:w2.heap.size<w4.heap.size:=by omega)
         replace c:=Hh c))
   all_goals
    go_wp2_with fail;go_meet
    first
     | exact At2 b.out c.out
     | exact At3 b.out c.out
     | exact At4 b.out c.out
  case rest=>
   obtain⟨g,rfl,rfl,hg,n,p⟩:=hcut;have m:=i.trans (p.mono s2);have a:=hp.below m av aA;have gv:=Ae p g2.out aK;have sx:=m.size;have e0:=Aa n 0;have e1:=Aa n 1;have e2:=Aa n 2;have e3:=Aa n 3;have q0:=Aa a.head 0;have q1:=Aa a.head 1;have q2:=Aa a.head 2;have q3:=Aa a.head 3;simp at e0 e1 e2 e3 q0 q1 q2 q3;clear x0 x1 x2 x3;replace⟨n,p,m,a,gv⟩:=H5 n p m a gv;by_cases u:r.2=0
   .have aE:(r.2 == 0)=true:=(by simpa using u);have aF:(r.2 != 0)=false:=(by simpa using u);replace u:=Hh u;go_wp2_with fail;go_region_law
     (first
       | (go_simp;go_at_call 65;refine(Xt r.1 whole _).mono ?_;rintro e w5 ⟨rfl,am⟩
          replace am:=Hh am))
    all_goals
     have t:=If am.out;have j:=m.trans (t.mono (by simpa using sx));have ad:=hp.below j av aA;have al:=Ae t gv.out (by have:=p.size;simp;omega);have s5:=j.size;replace⟨ad,j,al⟩:=H3 ad j al;clear t;by_cases hf:r.1.fits whole=true
     .simp only[hf];replace hf:=Hh hf;go_wp2_with fail;refine(Ait pb x cap w.heap.size v whole l fr y 283 (λf=>(f.add v).1) _ ad.out hl.out b1 b2 b3 al.out ao9 ao9 Atz (λs w1 h=>At1 s v _ w1 h)).mono ?_;rintro e w6 ⟨rfl,aM,aB,l',hc,ao,ap,an⟩;replace⟨hc,ao,ap,an⟩:=H4 hc ao ap an;go_wp2;go_ret;refine⟨0,aM,aB,l',rfl,.inr (.inr ⟨hs.out,by rw[<-hr.out];exact u.out,by rw[<-hr.out];exact hf.out,rfl,hc.out⟩),ao.out,?_,(Mod.ag j.out).trans (an.mono λk _ h=>.inl h)⟩;rcases ap.out with h|h
      .exact .inl h
      .exact .inr (Ay s5 h)
     .have ac:r.1.fits whole=false:=(by simpa using hf);simp only[ac];replace ac:=Hh ac;clear hf;go_wp2;go_ret;exact⟨61,x,cap,l,rfl,.inr (.inl ⟨hs.out,(λh=>by have:=ac.out;rw[hr.out,h.2]at this;cases this),rfl,rfl⟩),ad.out,.inl rfl,Mod.ag j.out⟩
   .have aE:(r.2 == 0)=false:=(by simpa using u);have aF:(r.2 != 0)=true:=(by simpa using u);replace u:=Hh u;go_wp2_with fail;go_quiet (fail);go_wp2;go_ret;exact⟨61,x,cap,l,rfl,.inr (.inl ⟨hs.out,(λh=>u.out (by rw[hr.out];exact h.1)),rfl,rfl⟩),a.below (Ai2 _ _ _) a.lt.1 a.lt.2,.inl rfl,Mod.ag (m.trans (Ai2 _ _ _))⟩
 .have af:Bm fr y v=false:=by simpa using hs
  rw[af];replace af:=Hh af;clear hs;go_wp2;go_ret;exact⟨1,x,cap,l,rfl,.inl ⟨af.out,rfl,rfl⟩,d.out,.inl rfl,Mod.ag i.out⟩
def Fb (d:V4):List St->Int->V4
 | [],_=>d
 | s :: r,u=>if s.t<=u then Fb s.f r u else d
def val (l:List St) (u:Int):V4:=Fb V4.zero l u
def P1:List St->Prop
 | []=>True
 | s :: r=>(∀x∈r,s.t<x.t)/\P1 r
def Th {l:List St} {x:St} (h:x∈l):∃i,i<l.length/\nth l i=x:=by
 obtain⟨i,a,rfl⟩:=Pb.1 h;exact⟨i,a,by simp[nth,a]⟩
def Acn {l:List St} {i:Nat} (h:i<l.length):nth l i∈l:=by
 simp[nth,h]
def Aco (l:List St) (h:Mp l):P1 l:=by
 induction l with
 | nil=>trivial
 | cons s r ih=>
  refine⟨λx b=>?_,ih (Acl h)⟩;obtain⟨i,a,rfl⟩:=Th b;have:=h 0 (i+1) ao9 (by simpa using a)
  rwa [Jm,E2]at this
def At7 (l:List St) (h:P1 l):Mp l:=by
 induction l with
 | nil=>intro i j _ a;simp at a
 | cons s r ih=>
  intro i j b a
  cases j with
  | zero=>omega
  | succ j=>
   cases i with
   | zero=>rw[Jm,E2];exact h.1 _ (Acn (by simpa using a))
   | succ i=>rw[E2,E2];exact ih h.2 i j ao9 (by simpa using a)
def Ot {d:V4} {l:List St} {u:Int} (h:∀x∈l,u<x.t):Fb d l u=d:=by
 cases l with
 | nil=>rfl
 | cons s r=>simp only[Fb];rw[Ac (by have:=h s as9;omega)]
def At8 {d:V4} {l:List St} {u:Int}  (e:Mp l) (h:Ks l u k):Fb d l u=(nth l k).f:=by
 induction l generalizing d k with
 | nil=>exact absurd h.1 as9
 | cons s r ih=>
  obtain⟨h1,a,c⟩:=h;simp only[Fb]
  cases k with
  | zero=>
   rw[Jm]at a ⊢;rw[Ad a,Ot];intro x m;obtain⟨i,g,rfl⟩:=Th m;have:=c (i+1) ao9 (by simpa using g)
   rwa [E2]at this
  | succ k=>
   have h0:=e 0 (k+1) ao9 h1;rw[E2]at a h0 ⊢;rw[Jm]at h0;rw[Ad ao9];exact ih (Acl e) ⟨by simpa using h1,a,λj n b=>by have:=c (j+1) ao9 (by simpa using b);rwa [E2]at this⟩
def Mr {l:List St} {u:Int}  (a:Mp l) (h:Ks l u k):val l u=(nth l k).f:=At8 a h
def Vg {l:List St} (b:Ce l) {u:Int} (g:0<=u):∃k,Ks l u k:=by
 have c:∀n,n<l.length->(∃k,Ks l u k)\/(nth l n).t<=u:=by
  intro n
  induction n with
  | zero=>intro _;right;rw[b.zero];exact g
  | succ n ih=>
   intro i;rcases ih ao9 with h|h
   .exact .inl h
   .by_cases d:(nth l (n+1)).t<=u
    .exact .inr d
    .refine .inl ⟨n,ao9,h,λj f a=>?_⟩;by_cases e:j=n+1
     .subst e;omega
     .have:=b.bj (n+1) j ao9 a;omega
 have m:=b.pos;rcases c (l.length-1) ao9 with h|h
 .exact h
 .exact ⟨l.length-1,ao9,h,λj f a=>by omega⟩
def Ai8 {l x:List St} {t:Int}  (g:Ce l) (h:Rb l t n x) (ht:t<1099511627776) {u:Int} (hu:0<=u):val x u=val l u:=by
 obtain⟨a,_,_,_,_,_⟩:=h.facts g ht;obtain⟨k,z,h⟩:=h;rcases h with⟨_,rfl,_⟩|⟨h1,rfl,rfl⟩
 .rfl
 .obtain ⟨j,r⟩:=Vg g hu;rw[Mr g.bj r];obtain⟨v,k2,k3⟩:=z;obtain⟨j1,o,p⟩:=r;have b:=Aio l k t v;have s:=Ach l k t v;by_cases y:j<k
  .rw [Mr a.bj (k:=j) ⟨ao9,by rw[b j ao9,Ad ao9];exact o,λi q c=>?_⟩,b j ao9,Ad ao9];have h3:=p (j+1) ao9 ao9;have h4:(nth (Kt l k t) (j+1)).t=(nth l (j+1)).t:=(by rw[b (j+1) ao9,Ad ao9]);by_cases e:i=j+1
   .subst e;omega
   .have:=a.bj (j+1) i ao9 c;omega
  .by_cases m:t<=u
   .have e:(nth (Kt l k t) (j+1)).f=(nth l j).f/\(nth (Kt l k t) (j+1)).t<=u:=by
     rw[b (j+1) ao9,Ac ao9];by_cases e:j=k
     .subst e;rw[Ad rfl];exact⟨rfl,m⟩
     .rw [Ac ao9,Nat.add_sub_cancel];exact⟨rfl,o⟩
    rw[Mr a.bj (k:=j+1) ⟨ao9,e.2,λi q c=>?_⟩,e.1];rw[b i ao9,Ac ao9,Ac ao9];exact p (i-1) ao9 ao9
   .have d:j=k:=(by apply Im;intro hc;have:=k3 j ao9 j1;omega);subst d;rw[Mr a.bj (k:=j) ⟨ao9,by rw[b j ao9,Ad ao9];exact o,λi q c=>?_⟩,b j ao9,Ad ao9];rw[b i ao9,Ac ao9];split
    .show u<t;omega
    .exact p (i-1) ao9 ao9
def At9 {l:List St} (r:Ce l) (g:V4->V4) {i e:Nat} (h:i<=e) (q:e<=l.length) {u:Int}  (f:Ks l u k) :
  val (Gy g i e l) u=if i<=k/\k<e then g (val l u)else val l u:=by
 have s:=Tf g i e l h q;have c:=Te g i e l h q
 have m:∀j,j<l.length->(nth (Gy g i e l) j).t=(nth l j).t:=λj p=>by rw[s j p];split<;>rfl
 have v:Mp (Gy g i e l):=λa b n o=>by rw[c]at o;rw[m a ao9,m b o];exact r.bj a b n o
 rw[Mr v (k:=k) ⟨by rw[c];exact f.1,by rw[m k f.1];exact f.2.1,λj p d=>by rw[c]at d;rw[m j d];exact f.2.2 j p d⟩,s k f.1,Mr r.bj f]
 split<;>rfl
def Aua {l:List St} (f:Ce l) (g:V4->V4) {i e:Nat} (h:i<=e) (o:e<=l.length):Ce (Gy g i e l):=by
 have p:=Tf g i e l h o;have c:=Te g i e l h o
 have k:∀j,j<l.length->(nth (Gy g i e l) j).t=(nth l j).t:=λj d=>by rw[p j d];split<;>rfl
 have q:=f.pos;exact⟨ao9,by rw[k 0 q];exact f.zero,λa b m n=>by rw[c]at n;rw[k a ao9,k b n];exact f.bj a b m n,λj d=>by rw[c]at d;rw[k j d];exact f.last j d⟩
def Acp (p:V4) (l:List St):∀x∈F6 p l,x∈l:=by
 induction l generalizing p with
 | nil=>simp[F6]
 | cons s r ih=>
  intro x a;simp only[F6]at a;split at a
  .exact Df _ (ih _ x a)
  .rcases Ei.1 a with rfl|h
   .simp
   .exact Df _ (ih _ x h)
def Aub (p:V4) (l:List St) (h:P1 l):P1 (F6 p l):=by
 induction l generalizing p with
 | nil=>exact h
 | cons s r ih=>
  simp only[F6];split
  .exact ih _ h.2
  .exact ⟨λx a=>h.1 x (Acp _ _ x a),ih _ h.2⟩
def Auc (p:V4) (l:List St) (h:P1 l) (u:Int):Fb p (F6 p l) u=Fb p l u:=by
 induction l generalizing p with
 | nil=>rfl
 | cons s r ih=>
  simp only[F6,Fb];by_cases a:s.f=p
  .rw [Ad a];have e:=ih s.f h.2;rw[a]at e ⊢;rw[e];by_cases b:s.t<=u
   .rw [Ad b]
   .rw [Ac b]
    exact Ot λx c=>by have:=h.1 x c;omega
  .rw [Ac a];simp only[Fb];rw[ih s.f h.2]
def xe (p:V4):List St->Prop
 | []=>True
 | s :: r=>s.f≠p/\xe s.f r
def Aud (p:V4) (l:List St):xe p (F6 p l):=by
 induction l generalizing p with
 | nil=>trivial
 | cons s r ih=>
  simp only[F6];split
  .next h=>have:=ih s.f;rw[h]at this ⊢;exact this
  .next h=>exact⟨h,ih s.f⟩
def Aue {p:V4} {l:List St} (h:xe p l):∀i,i+1<l.length->(nth l i).f≠(nth l (i+1)).f:=by
 induction l generalizing p with
 | nil=>intro i a;simp at a
 | cons s r ih=>
  intro i a
  cases i with
  | zero=>
   cases r with
   | nil=>simp at a
   | cons s2 r2=>rw[Jm,E2,Jm];exact Qp h.2.1
  | succ i=>rw[E2,E2];exact ih h.2 i (by simpa using a)
def Ai9 (s:St) (r:List St) (h:∀i,i+1<(s :: r).length->(nth (s :: r) i).f≠(nth (s :: r) (i+1)).f):xe s.f r:=by
 induction r generalizing s with
 | nil=>trivial
 | cons s2 r ih=>
  refine⟨?_,ih s2 λi a=>?_⟩
  .have:=h 0 as9;rw[Jm,E2,Jm]at this;exact Qp this
  .have:=h (i+1) (by simpa using a);rwa [E2,E2]at this
def Auf {l:List St} (c:Ce l):Ce (B8 l)/\(∀u,val (B8 l) u=val l u)/\(∀x∈B8 l,x∈l)/\(∀i,i+1<(B8 l).length->(nth (B8 l) i).f≠(nth (B8 l) (i+1)).f):=by
 cases l with
 | nil=>exact absurd c.pos as9
 | cons s r=>
  have d:=Aco _ c.bj
  have b:∀x∈B8 (s :: r),x∈s :: r:=by
   intro x g;rcases Ei.1 g with rfl|h
   .simp
   .exact Df _ (Acp _ _ x h)
  refine⟨⟨by simp[B8],c.zero,At7 _ ⟨λx g=>d.1 x (Acp _ _ x g),Aub _ _ d.2⟩,λi k=>?_⟩,λu=>?_,b,?_⟩
  .obtain ⟨j,m,e⟩:=Th (b _ (Acn k));rw[<-e];exact c.last j m
  .simp only[B8,val,Fb];rw[Auc _ _ d.2]
  .exact Aue (p:=⟨s.f.a+1,0,0,0⟩) ⟨λh=>by have:=Cd V4.a h;simp at this;omega,Aud s.f r⟩
def Aug {a:V4} {r e:List St} (t0:Int) (h:P1 r) (i:P1 e) (p:xe a r) (g:xe a e) (n:∀x∈r,t0<=x.t/\x.t<1099511627776) (c:∀x∈e,t0<=x.t/\x.t<1099511627776)
  (j:∀u,t0<=u->u<1099511627776->Fb a r u=Fb a e u):r=e:=by
 induction r generalizing a e t0 with
 | nil=>
  cases e with
  | nil=>rfl
  | cons s' q'=>
   exfalso;have:=j s'.t (c s' as9).1 (c s' as9).2;simp only[Fb]at this;rw[Ad (Dh _),Ot i.1]at this;exact g.1 this.symm
 | cons s q ih=>
  cases e with
  | nil=>
   exfalso;have:=j s.t (n s as9).1 (n s as9).2;simp only[Fb]at this;rw[Ad (Dh _),Ot h.1]at this;exact p.1 this
  | cons s' q'=>
   have b:=n s as9;have v:=c s' as9;have d:=j s.t b.1 b.2;have m:=j s'.t v.1 v.2;simp only[Fb]at d m;rw[Ad (Dh _),Ot h.1]at d;rw[Ad (Dh s'.t),Ot i.1]at m
   have o:s.t=s'.t:=by
    apply Im;intro hc;by_cases z:s.t<s'.t
    .rw [Ac ao9]at d;exact p.1 d
    .rw [Ac ao9]at m;exact g.1 m.symm
   rw[Ad ao9]at d;have k:Fb s'.f q' s.t=s'.f:=Ot (by rw[o];exact i.1);rw[k]at d;have hs:s=s':=(by obtain⟨st,sf⟩:=s;obtain⟨ad,ac⟩:=s';simp at o d;rw[o,d]);subst hs;rw[ih s.t h.2 i.2 p.2 g.2 (λx l=>⟨by have:=h.1 x l;omega,(n x (by simp[l])).2⟩) (λx l=>⟨by have:=i.1 x l;omega,(c x (by simp[l])).2⟩) λu h1 y=>?_];have:=j u ao9 y;simp only[Fb]at this
   rwa [Ad h1,Ad h1]at this
def Acq {l d:List St} (h:Ce l) (a:Ce d) (hu:∀i,i+1<l.length->(nth l i).f≠(nth l (i+1)).f) (o:∀i,i+1<d.length->(nth d i).f≠(nth d (i+1)).f)
  (p:∀u,0<=u->u<1099511627776->val l u=val d u):l=d:=by
 cases l with
 | nil=>exact absurd h.pos as9
 | cons s r=>
  cases d with
  | nil=>exact absurd a.pos as9
  | cons s' r'=>
   have n:=Aco _ h.bj;have c:=Aco _ a.bj;have z:s.t=0:=h.zero;have q:s'.t=0:=a.zero
   have y:∀x∈r,0<=x.t/\x.t<1099511627776:=λx b=>by
    have:=n.1 x b;obtain⟨j,m,e⟩:=Th (Df s b);exact⟨ao9,by rw[<-e];exact h.last j m⟩
   have k:∀x∈r',0<=x.t/\x.t<1099511627776:=λx b=>by
    have:=c.1 x b;obtain⟨j,m,e⟩:=Th (Df s' b);exact⟨ao9,by rw[<-e];exact a.last j m⟩
   have g:=p 0 (Dh _) ao9;simp only[val,Fb]at g;rw[Ad ao9,Ad ao9,Ot (λx b=>by have:=n.1 x b;omega),Ot (λx b=>by have:=c.1 x b;omega)]at g;have hs:s=s':=(by obtain⟨st,sf⟩:=s;obtain⟨ad,ac⟩:=s';simp at z q g;rw[z,q,g]);subst hs;rw[Aug 0 n.2 c.2 (Ai9 s r hu) (Ai9 s r' o) y k λu h1 v=>?_];have:=p u h1 v;simp only[val,Fb]at this
   rwa [Ad ao9,Ad ao9]at this
def Aja (l:List St):Prop:=∀i,i+1<l.length->(nth l i).f≠(nth l (i+1)).f
def Ajb {l p:List St} {fr d:Int} {g:V4->V4} (x:Ce l) (h:Rc l fr d g p) (_h0:0<=fr) (h1:fr<d) (h2:d<=1099511627776) :
  Ce p/\Aja p/\∀u,0<=u->u<1099511627776->val p u=if fr<=u/\u<d then g (val l u)else val l u:=by
 obtain⟨i,l1,e,f,m,c,rfl⟩:=h;obtain⟨j,a1,a2,a3,a4,a5⟩:=m.facts x ao9
 have s:Ce f/\i<=e/\e<=f.length/\(nth f i).t=fr/\i<f.length/\(∀u,0<=u->val f u=val l1 u)/\(d<1099511627776->e<f.length/\(nth f e).t=d)/\(d=1099511627776->e=f.length):=by
  rcases c with⟨n,c⟩|⟨n,rfl,rfl⟩
  .obtain ⟨a,b1,b2,b3,b4,b5⟩:=c.facts j n;obtain⟨v,q⟩:=b4 i a1 ao9;exact⟨a,ao9,ao9,by rw[q];exact a2,ao9,λu o=>Ai8 j c n o,λ_=>⟨b1,b2⟩,λh=>by omega⟩
  .exact ⟨j,ao9,Nat.le_refl _,a2,a1,λ_ _=>rfl,λh=>by omega,λ_=>rfl⟩
 obtain⟨a,y,z,k3,k4,k5,k6,k7⟩:=s;obtain⟨v,q,c3,c4⟩:=Auf (Aua a g y z);refine⟨v,c4,λu o al=>?_⟩;obtain⟨k,b⟩:=Vg a o;rw[q,At9 a g y z b,k5 u o,Ai8 x m ao9 o]
 have e1:i<=k↔fr<=u:=by
  constructor
  .intro ad;by_cases e:i=k
   .subst e;have:=b.2.1;omega
   .have:=a.bj i k ao9 b.1;have:=b.2.1;omega
  .intro ac;apply Im;intro hc;have:=b.2.2 i ao9 k4;omega
 have e2:k<e↔u<d:=by
  have af:=b.1;by_cases n:d<1099511627776
  .obtain ⟨g1,g2⟩:=k6 n;constructor
   .intro r;have:=b.2.2 e r g1;omega
   .intro am;apply Im;intro hc;by_cases e':e=k
    .subst e';have:=b.2.1;omega
    .have:=a.bj e k ao9 b.1;have:=b.2.1;omega
  .have:=k7 ao9;omega
 simp only[e1,e2]
structure Inv (whole:V4) (l:List St):Prop where
 right:whole.right=true
 loose:Ce l
 ik:Aja l
 free:∀u,0<=u->u<1099511627776->(val l u).right=true/\(val l u).fits whole=true
def _root_.Go.Proofs.YtimlcnhcjndijaaGreatDoor.V4.leq (u v:V4):Prop:=u.a<=v.a/\u.b<=v.b/\u.c<=v.c/\u.d<=v.d
def Lv {u v:V4}:u.fits v=true↔u.leq v:=by simp[V4.fits,V4.leq,and_assoc]
def Auh {u v:V4}:u.fits v=false↔¬u.leq v:=by rw[<-Lv];simp
def Fj {u:V4}:u.right=true↔(0<=u.a/\u.a<=1073741824)/\(0<=u.b/\u.b<=1073741824)/\(0<=u.c/\u.c<=1073741824)/\(0<=u.d/\u.d<=1073741824):=by
 simp[V4.right,gr,and_assoc]
def Aui {u v:V4} (e:u.right=true) (f:v.right=true) (h:v.leq u):u.sub v=(⟨u.a-v.a,u.b-v.b,u.c-v.c,u.d-v.d⟩,0):=by
 have h1:=Fj.1 e;have g:=Fj.1 f;obtain⟨a,b,c,d⟩:=h;unfold V4.sub;rw[Ad ⟨e,f⟩];unfold V4.told;rw[Ad];rw[Fj]
 refine⟨⟨?_,?_⟩,⟨?_,?_⟩,⟨?_,?_⟩,⟨?_,?_⟩⟩<;>simp only<;>omega
def Acr {u v:V4} (e:u.right=true) (f:v.right=true) (h:(⟨u.a+v.a,u.b+v.b,u.c+v.c,u.d+v.d⟩:V4).right=true):u.add v=(⟨u.a+v.a,u.b+v.b,u.c+v.c,u.d+v.d⟩,0):=by
 unfold V4.add;rw[Ad ⟨e,f⟩];unfold V4.told;rw[Ad h]
def Auj {u v:V4} (e:u.right=true) (f:v.right=true) (h:¬(⟨u.a+v.a,u.b+v.b,u.c+v.c,u.d+v.d⟩:V4).right=true):(u.add v).2=30:=by
 unfold V4.add;rw[Ad ⟨e,f⟩];unfold V4.told;rw[Ac h]
def Auk {l:List St} (b:Ce l) {i:Nat} (c:i<l.length):val l (nth l i).t=(nth l i).f:=
 Mr b.bj ⟨c,Dh _,λj d a=>b.bj i j d a⟩
structure Aul (whole:V4) (S:Int->Prop) (F:Int->V4) (m:V4):Prop where
 low:∀u,S u->m.leq (F u)
 cap:m.leq whole
 a:m.a=whole.a\/∃u,S u/\m.a=(F u).a
 b:m.b=whole.b\/∃u,S u/\m.b=(F u).b
 c:m.c=whole.c\/∃u,S u/\m.c=(F u).c
 d:m.d=whole.d\/∃u,S u/\m.d=(F u).d
structure Aum (S:Int->Prop) (F:Int->V4) (m:V4):Prop where
 high:∀u,S u->(F u).leq m
 a0:0<=m.a/\0<=m.b/\0<=m.c/\0<=m.d
 a:m.a=0\/∃u,S u/\m.a=(F u).a
 b:m.b=0\/∃u,S u/\m.b=(F u).b
 c:m.c=0\/∃u,S u/\m.c=(F u).c
 d:m.d=0\/∃u,S u/\m.d=(F u).d
def _root_.Go.Proofs.YtimlcnhcjndijaaGreatDoor.V4.leq.refl (u:V4):u.leq u:=⟨Dh _,Dh _,Dh _,Dh _⟩
def _root_.Go.Proofs.YtimlcnhcjndijaaGreatDoor.V4.leq.trans {u v x:V4} (h:u.leq v) (k:v.leq x):u.leq x:=⟨Up h.1 k.1,Up h.2.1 k.2.1,Up h.2.2.1 k.2.2.1,Up h.2.2.2 k.2.2.2⟩
def Ajc (u v:V4):(u.least v).leq u/\(u.least v).leq v:=by
 simp only[V4.least,V4.leq];omega
def Ajd (u v:V4):u.leq (u.dx v)/\v.leq (u.dx v):=by
 simp only[V4.dx,V4.leq];omega
def Aun (v:V4) (l:List St):(Ek v l).leq v/\∀x∈l,(Ek v l).leq x.f:=by
 induction l generalizing v with
 | nil=>exact⟨V4.leq.refl _,as9⟩
 | cons s r ih=>
  obtain⟨h1,a⟩:=ih (v.least s.f);refine⟨h1.trans (Ajc _ _).1,λx b=>?_⟩;rcases Ei.1 b with rfl|h
  .exact h1.trans (Ajc _ _).2
  .exact a x h
def Auo (v:V4) (l:List St):v.leq (E3 v l)/\∀x∈l,x.f.leq (E3 v l):=by
 induction l generalizing v with
 | nil=>exact⟨V4.leq.refl _,as9⟩
 | cons s r ih=>
  obtain⟨h1,a⟩:=ih (v.dx s.f);refine⟨(Ajd _ _).1.trans h1,λx b=>?_⟩;rcases Ei.1 b with rfl|h
  .exact (Ajd _ _).2.trans h1
  .exact a x h
def Aup (v:V4) (l:List St):((Ek v l).a=v.a\/∃x∈l,(Ek v l).a=x.f.a)/\((Ek v l).b=v.b\/∃x∈l,(Ek v l).b=x.f.b) /\
  ((Ek v l).c=v.c\/∃x∈l,(Ek v l).c=x.f.c)/\((Ek v l).d=v.d\/∃x∈l,(Ek v l).d=x.f.d):=by
 induction l generalizing v with
 | nil=>exact⟨.inl rfl,.inl rfl,.inl rfl,.inl rfl⟩
 | cons s r ih=>
  obtain⟨i,j,k,m⟩:=ih (v.least s.f);simp only[Ek];refine⟨?_,?_,?_,?_⟩
  .rcases i with h|⟨x,g,h⟩
   .rw [h];simp only[V4.least];by_cases e:v.a<=s.f.a
    .exact .inl ao9
    .exact .inr ⟨s,as9,ao9⟩
   .exact .inr ⟨x,by simp[g],h⟩
  .rcases j with h|⟨x,g,h⟩
   .rw [h];simp only[V4.least];by_cases e:v.b<=s.f.b
    .exact .inl ao9
    .exact .inr ⟨s,as9,ao9⟩
   .exact .inr ⟨x,by simp[g],h⟩
  .rcases k with h|⟨x,g,h⟩
   .rw [h];simp only[V4.least];by_cases e:v.c<=s.f.c
    .exact .inl ao9
    .exact .inr ⟨s,as9,ao9⟩
   .exact .inr ⟨x,by simp[g],h⟩
  .rcases m with h|⟨x,g,h⟩
   .rw [h];simp only[V4.least];by_cases e:v.d<=s.f.d
    .exact .inl ao9
    .exact .inr ⟨s,as9,ao9⟩
   .exact .inr ⟨x,by simp[g],h⟩
def Auq (v:V4) (l:List St):((E3 v l).a=v.a\/∃x∈l,(E3 v l).a=x.f.a)/\((E3 v l).b=v.b\/∃x∈l,(E3 v l).b=x.f.b) /\
  ((E3 v l).c=v.c\/∃x∈l,(E3 v l).c=x.f.c)/\((E3 v l).d=v.d\/∃x∈l,(E3 v l).d=x.f.d):=by
 induction l generalizing v with
 | nil=>exact⟨.inl rfl,.inl rfl,.inl rfl,.inl rfl⟩
 | cons s r ih=>
  obtain⟨i,j,k,m⟩:=ih (v.dx s.f);simp only[E3];refine⟨?_,?_,?_,?_⟩
  .rcases i with h|⟨x,g,h⟩
   .rw [h];simp only[V4.dx];by_cases e:s.f.a<=v.a
    .exact .inl ao9
    .exact .inr ⟨s,as9,ao9⟩
   .exact .inr ⟨x,by simp[g],h⟩
  .rcases j with h|⟨x,g,h⟩
   .rw [h];simp only[V4.dx];by_cases e:s.f.b<=v.b
    .exact .inl ao9
    .exact .inr ⟨s,as9,ao9⟩
   .exact .inr ⟨x,by simp[g],h⟩
  .rcases k with h|⟨x,g,h⟩
   .rw [h];simp only[V4.dx];by_cases e:s.f.c<=v.c
    .exact .inl ao9
    .exact .inr ⟨s,as9,ao9⟩
   .exact .inr ⟨x,by simp[g],h⟩
  .rcases m with h|⟨x,g,h⟩
   .rw [h];simp only[V4.dx];by_cases e:s.f.d<=v.d
    .exact .inl ao9
    .exact .inr ⟨s,as9,ao9⟩
   .exact .inr ⟨x,by simp[g],h⟩
def Aje {l:List St} (b:Ce l) {A B:Int} (hA:0<=A) (q:A<B):∃n,n<=(l.drop (pl l A)).length/\(∀j,j<n->(nth (l.drop (pl l A)) j).t<B)/\(n<(l.drop (pl l A)).length->B<=(nth (l.drop (pl l A)) n).t) /\
  (∀x∈(l.drop (pl l A)).take n,∃u,A<=u/\u<B/\x.f=val l u)/\(∀u,A<=u->u<B->∃x∈(l.drop (pl l A)).take n,val l u=x.f):=by
 obtain⟨k,d⟩:=Vg b hA;have v:=d.rj b.bj;rw[<-v]
 obtain⟨n,o,p,c⟩:∃n,n<=(l.drop k).length/\(∀j,j<n->(nth (l.drop k) j).t<B)/\(n<(l.drop k).length->B<=(nth (l.drop k) n).t):=by
  have y:∀n,n<=(l.drop k).length->(∃m,m<=(l.drop k).length/\(∀j,j<m->(nth (l.drop k) j).t<B)/\(m<(l.drop k).length->B<=(nth (l.drop k) m).t))\/(∀j,j<n->(nth (l.drop k) j).t<B):=by
   intro n
   induction n with
   | zero=>intro _;right;intro j a;omega
   | succ n ih=>
    intro hn;rcases ih ao9 with h|h
    .exact .inl h
    .by_cases r:(nth (l.drop k) n).t<B
     .right;intro j a;by_cases e:j=n
      .subst e;exact r
      .exact h j ao9
     .exact .inl ⟨n,ao9,h,λ_=>by omega⟩
  rcases y _ Ln with h|h
  .exact h
  .exact ⟨_,Nat.le_refl _,h,λh=>absurd h ao9⟩
 refine⟨n,o,p,c,λx hx=>?_,λu h1 h2=>?_⟩
 .obtain ⟨i,hi,rfl⟩:=Th hx;rw[Dt,G8]at hi;rw[Y0 _ _ _ ao9,Nw];have g:=p i ao9;rw[Nw]at g;by_cases e:i=0
  .subst e;exact⟨A,Dh _,q,(Mr b.bj d).symm⟩
  .refine ⟨(nth l (k+i)).t,?_,g,(Auk b ao9).symm⟩;have:=d.2.2 (k+i) ao9 ao9;omega
 .obtain ⟨j,a⟩:=Vg b (u:=u) ao9;have ad:k<=j:=by apply Im;intro r;have:=a.2.2 k ao9 d.1;have:=d.2.1;omega
  have ac:=a.1
  have s:j-k<n:=by
   apply Im;intro r;rw[G8]at c o;have z:=c ao9;rw[Nw]at z;by_cases e:k+n=j
   .rw [e]at z;have:=a.2.1;omega
   .have:=b.bj (k+n) j ao9 a.1;have:=a.2.1;omega
  refine⟨nth ((l.drop k).take n) (j-k),Acn (by rw[Dt,G8];omega),?_⟩;rw[Y0 _ _ _ s,Nw,show k+(j-k)=j by omega];exact Mr b.bj a
def Aur  {l:List St} (i:Ce l) (fr f:Int):Aul whole (λu=>max fr 0<=u/\u<min f 1099511627776) (val l) (Lu whole l fr f):=by
 unfold Lu;by_cases h:min f 1099511627776<=max fr 0
 .rw [Ad h];exact⟨λu g=>by omega,⟨Dh _,Dh _,Dh _,Dh _⟩,.inl rfl,.inl rfl,.inl rfl,.inl rfl⟩
 .rw [Ac h];obtain⟨n,q,r,s,d,t⟩:=Aje i (A:=max fr 0) (B:=min f 1099511627776) ao9 ao9;rw[Aiu _ _ n q whole r s];obtain⟨j,k⟩:=Aun whole ((l.drop (pl l (max fr 0))).take n);obtain⟨m,o,mc,p⟩:=Aup whole ((l.drop (pl l (max fr 0))).take n);refine⟨λu g=>?_,j,?_,?_,?_,?_⟩
  .obtain ⟨x,a,e⟩:=t u g.1 g.2;rw[e];exact k x a
  .rcases m with h|⟨x,a,h⟩
   .exact .inl h
   .obtain ⟨u,b,c,e⟩:=d x a;exact .inr ⟨u,⟨b,c⟩,by rw[h,e]⟩
  .rcases o with h|⟨x,a,h⟩
   .exact .inl h
   .obtain ⟨u,b,c,e⟩:=d x a;exact .inr ⟨u,⟨b,c⟩,by rw[h,e]⟩
  .rcases mc with h|⟨x,a,h⟩
   .exact .inl h
   .obtain ⟨u,b,c,e⟩:=d x a;exact .inr ⟨u,⟨b,c⟩,by rw[h,e]⟩
  .rcases p with h|⟨x,a,h⟩
   .exact .inl h
   .obtain ⟨u,b,c,e⟩:=d x a;exact .inr ⟨u,⟨b,c⟩,by rw[h,e]⟩
def Ajf {l:List St} (i:Ce l) {fr f:Int} (h0:0<=fr) (h1:fr<f):Aum (λu=>fr<=u/\u<f) (val l) (Fi l fr f):=by
 unfold Fi;obtain⟨n,q,r,s,d,t⟩:=Aje i h0 h1;rw[Aiw _ _ n q V4.zero r s];obtain⟨j,k⟩:=Auo V4.zero ((l.drop (pl l fr)).take n);obtain⟨m,o,mc,p⟩:=Auq V4.zero ((l.drop (pl l fr)).take n);refine⟨λu g=>?_,j,?_,?_,?_,?_⟩
 .obtain ⟨x,a,e⟩:=t u g.1 g.2;rw[e];exact k x a
 .rcases m with h|⟨x,a,h⟩
  .exact .inl h
  .obtain ⟨u,b,c,e⟩:=d x a;exact .inr ⟨u,⟨b,c⟩,by rw[h,e]⟩
 .rcases o with h|⟨x,a,h⟩
  .exact .inl h
  .obtain ⟨u,b,c,e⟩:=d x a;exact .inr ⟨u,⟨b,c⟩,by rw[h,e]⟩
 .rcases mc with h|⟨x,a,h⟩
  .exact .inl h
  .obtain ⟨u,b,c,e⟩:=d x a;exact .inr ⟨u,⟨b,c⟩,by rw[h,e]⟩
 .rcases p with h|⟨x,a,h⟩
  .exact .inl h
  .obtain ⟨u,b,c,e⟩:=d x a;exact .inr ⟨u,⟨b,c⟩,by rw[h,e]⟩
def Nx (u v:V4):V4:=⟨u.a-v.a,u.b-v.b,u.c-v.c,u.d-v.d⟩
def A6 (u v:V4):V4:=⟨u.a+v.a,u.b+v.b,u.c+v.c,u.d+v.d⟩
def Ajg  {l:List St} (k:Inv whole l) {fr g:Int} (h0:0<=fr) (h1:fr<g) (n:g<=1099511627776) (v:V4) :
  v.leq (Lu whole l fr g)↔∀u,fr<=u->u<g->v.leq (val l u):=by
 have i:=Aur (whole:=whole) k.loose fr g;constructor
 .intro h u a b;exact h.trans (i.low u ⟨ao9,ao9⟩)
 .intro h;have m:∀u,fr<=u->u<g->(val l u).leq whole:=λu a b=>Lv.1 (k.free u ao9 ao9).2;have f:=(h fr (Dh _) h1).trans (m fr (Dh _) h1);refine⟨?_,?_,?_,?_⟩
  .rcases i.a with e|⟨u,j,e⟩
   .rw [e];exact f.1
   .rw [e];exact(h u ao9 ao9).1
  .rcases i.b with e|⟨u,j,e⟩
   .rw [e];exact f.2.1
   .rw [e];exact(h u ao9 ao9).2.1
  .rcases i.c with e|⟨u,j,e⟩
   .rw [e];exact f.2.2.1
   .rw [e];exact(h u ao9 ao9).2.2.1
  .rcases i.d with e|⟨u,j,e⟩
   .rw [e];exact f.2.2.2
   .rw [e];exact(h u ao9 ao9).2.2.2
def Ajh  {l:List St} (j:Inv whole l) {fr i:Int} (h0:0<=fr) (h1:fr<i) (h2:i<=1099511627776) (v:V4) :
  (A6 (Fi l fr i) v).leq whole↔∀u,fr<=u->u<i->(A6 (val l u) v).leq whole:=by
 have g:=Ajf j.loose h0 h1;have x:=λu (a:fr<=u) (b:u<i)=>Fj.1 (j.free u ao9 ao9).1;constructor
 .intro h u a b;have:=g.high u ⟨a,b⟩;obtain⟨a1,a2,a3,z⟩:=this;obtain⟨k,m,n,o⟩:=h;simp only[A6]at k m n o
  refine⟨?_,?_,?_,?_⟩<;>simp only[A6]<;>omega
 .intro h;have t:=h fr (Dh _) h1;have y:=x fr (Dh _) h1;obtain⟨p,q,r,s⟩:=t;simp only[A6]at p q r s;refine⟨?_,?_,?_,?_⟩
  .rcases g.a with e|⟨u,f,e⟩
   .simp only[A6];omega
   .have:=(h u f.1 f.2).1;simp only[A6]at this ⊢;omega
  .rcases g.b with e|⟨u,f,e⟩
   .simp only[A6];omega
   .have:=(h u f.1 f.2).2.1;simp only[A6]at this ⊢;omega
  .rcases g.c with e|⟨u,f,e⟩
   .simp only[A6];omega
   .have:=(h u f.1 f.2).2.2.1;simp only[A6]at this ⊢;omega
  .rcases g.d with e|⟨u,f,e⟩
   .simp only[A6];omega
   .have:=(h u f.1 f.2).2.2.2;simp only[A6]at this ⊢;omega
def Aji  {l:List St} (j:Inv whole l) {fr i:Int} (h0:0<=fr) (h1:fr<i) (p:i<=1099511627776):(Fi l fr i).right=true:=by
 have g:=Ajf j.loose h0 h1;have h:=λu (a:fr<=u) (b:u<i)=>Fj.1 (j.free u ao9 ao9).1;obtain⟨k,m,n,o⟩:=g.a0;rw[Fj];refine⟨⟨k,?_⟩,⟨m,?_⟩,⟨n,?_⟩,⟨o,?_⟩⟩
 .rcases g.a with e|⟨u,f,e⟩
  .omega
  .have:=h u f.1 f.2;omega
 .rcases g.b with e|⟨u,f,e⟩
  .omega
  .have:=h u f.1 f.2;omega
 .rcases g.c with e|⟨u,f,e⟩
  .omega
  .have:=h u f.1 f.2;omega
 .rcases g.d with e|⟨u,f,e⟩
  .omega
  .have:=h u f.1 f.2;omega
def Rf (l:List St) (fr tt:Int) (v:V4) (r:Int) (l':List St):Prop:=
 (Bm fr tt v=false/\r=1/\l'=l)\/(Bm fr tt v=true/\¬(∀u,fr<=u->u<tt->v.leq (val l u))/\r=60/\l'=l) \/
  (Bm fr tt v=true/\(∀u,fr<=u->u<tt->v.leq (val l u))/\r=0/\∀u,0<=u->u<1099511627776->val l' u=if fr<=u/\u<tt then Nx (val l u) v else val l u)
def Rg (whole:V4) (l:List St) (fr tt:Int) (v:V4) (r:Int) (l':List St):Prop:=
 (Bm fr tt v=false/\r=1/\l'=l)\/(Bm fr tt v=true/\¬(∀u,fr<=u->u<tt->(A6 (val l u) v).leq whole)/\r=61/\l'=l) \/
  (Bm fr tt v=true/\(∀u,fr<=u->u<tt->(A6 (val l u) v).leq whole)/\r=0/\∀u,0<=u->u<1099511627776->val l' u=if fr<=u/\u<tt then A6 (val l u) v else val l u)
def Ajj  {l o:List St} {fr j:Int} {v:V4} {r:Int} (c:Inv whole l) (h:Aiz whole l fr j v r o):Inv whole o/\Rf l fr j v r o:=by
 rcases h with⟨h1,g,i⟩|⟨h1,g,i,q⟩|⟨h1,g,i,q⟩
 .rw [i];exact⟨c,.inl ⟨h1,g,rfl⟩⟩
 .obtain ⟨k,m,n,p⟩:=Mq h1;rw[q];exact⟨c,.inr (.inl ⟨h1,λy=>Auh.1 g ((Ajg c k m n v).2 y),i,rfl⟩)⟩
 .obtain ⟨k,m,n,p⟩:=Mq h1;have a:=(Ajg c k m n v).1 (Lv.1 g);obtain⟨s,t,x⟩:=Ajb c.loose q k m n
  have d:∀u,0<=u->u<1099511627776->val o u=if fr<=u/\u<j then Nx (val l u) v else val l u:=by
   intro u e f;rw[x u e f];by_cases b:fr<=u/\u<j
   .rw [Ad b,Ad b,Aui (c.free u e f).1 p (a u b.1 b.2)];rfl
   .rw [Ac b,Ac b]
  refine⟨⟨c.right,s,t,λu e f=>?_⟩,.inr (.inr ⟨h1,a,i,d⟩)⟩;rw[d u e f];by_cases b:fr<=u/\u<j
  .rw [Ad b];have q1:=Fj.1 (c.free u e f).1;have z:=Lv.1 (c.free u e f).2;have q3:=a u b.1 b.2;have q4:=Fj.1 p;obtain⟨a1,a2,a3,a4⟩:=z;obtain⟨d1,d2,d3,d4⟩:=q3;rw[Fj,Lv]
   refine⟨⟨⟨?_,?_⟩,⟨?_,?_⟩,⟨?_,?_⟩,⟨?_,?_⟩⟩,?_,?_,?_,?_⟩<;>simp only[Nx]<;>omega
  .rw [Ac b];exact c.free u e f
def Ajk  {l l':List St} {fr e:Int} {v:V4} {r:Int} (f:Inv whole l) (h:Ai1 whole l fr e v r l'):Inv whole l'/\Rg whole l fr e v r l':=by
 rcases h with⟨h1,z,y⟩|⟨h1,z,y,h4⟩|⟨h1,z,x,y,h4⟩
 .rw [y];exact⟨f,.inl ⟨h1,z,rfl⟩⟩
 .obtain ⟨q,s,t,p⟩:=Mq h1;rw[h4];refine⟨f,.inr (.inl ⟨h1,λhh=>z ?_,y,rfl⟩)⟩;have hm:=(Ajh f q s t v).2 hh;have j:=Aji f q s t;have q1:=Fj.1 j;have q2:=Fj.1 p;have q3:=Fj.1 f.right;obtain⟨e1,e2,e3,e4⟩:=hm;simp only[A6]at e1 e2 e3 e4
  have hr:(⟨(Fi l fr e).a+v.a,(Fi l fr e).b+v.b,(Fi l fr e).c+v.c,(Fi l fr e).d+v.d⟩:V4).right=true:=by rw[Fj];refine⟨⟨?_,?_⟩,⟨?_,?_⟩,⟨?_,?_⟩,⟨?_,?_⟩⟩<;>simp only<;>omega
  rw[Acr j p hr];exact⟨rfl,Lv.2 ⟨e1,e2,e3,e4⟩⟩
 .obtain ⟨q,s,t,p⟩:=Mq h1;have j:=Aji f q s t;have hr:(⟨(Fi l fr e).a+v.a,(Fi l fr e).b+v.b,(Fi l fr e).c+v.c,(Fi l fr e).d+v.d⟩:V4).right=true:=by apply Im;intro hc;have:=Auj j p hc;omega
  rw[Acr j p hr]at x;have i:=(Ajh f q s t v).1 (Lv.1 x);obtain⟨c1,c2,c3⟩:=Ajb f.loose h4 q s t;have ac:=Fj.1 f.right;have q4:=Fj.1 p
  have n:∀u,0<=u->u<1099511627776->fr<=u->u<e->(A6 (val l u) v).right=true:=by
   intro u k m u2 u3;have q1:=Fj.1 (f.free u k m).1;obtain⟨d1,d2,d3,d4⟩:=i u u2 u3;simp only[A6]at d1 d2 d3 d4;rw[Fj]
   refine⟨⟨?_,?_⟩,⟨?_,?_⟩,⟨?_,?_⟩,⟨?_,?_⟩⟩<;>simp only[A6]<;>omega
  have o:∀u,0<=u->u<1099511627776->val l' u=if fr<=u/\u<e then A6 (val l u) v else val l u:=by
   intro u k m;rw[c3 u k m];by_cases g:fr<=u/\u<e
   .rw [Ad g,Ad g,Acr (f.free u k m).1 p (n u k m g.1 g.2)];rfl
   .rw [Ac g,Ac g]
  refine⟨⟨f.right,c1,c2,λu k m=>?_⟩,.inr (.inr ⟨h1,i,y,o⟩)⟩;rw[o u k m];by_cases g:fr<=u/\u<e
  .rw [Ad g];exact⟨n u k m g.1 g.2,Lv.2 (i u g.1 g.2)⟩
  .rw [Ac g];exact f.free u k m
def Aus  (h:whole.right=true):Inv whole [⟨0,whole⟩]:=by
 refine⟨h,⟨as9,rfl,λi j b c=>by simp at c;omega,λi a=>?_⟩,λi a=>by simp at a,λu d e=>?_⟩
 .have:i=0:=by simpa using a
  subst this;simp[nth]
 .have:val [⟨0,whole⟩] u=whole:=by simp[val,Fb,d]
  rw[this];exact⟨h,Lv.2 (V4.leq.refl _)⟩
structure Nd where
 pb:Nat
 sb:Nat
 cap:Nat
 whole:V4
 l:List St
def Nd.none:Nd:=⟨0,0,0,V4.zero,[]⟩
def nd (ps:List Nd) (i:Nat):Nd:=ps.getD i Nd.none
def Ms {a:List Nd} {i:Nat} (x:Nd) (b:i<a.length) (j:Nat):nd (a.set i x) j=if j=i then x else nd a j:=by
 unfold nd;by_cases h:j=i
 .subst h;rw[Ad rfl];simp[List.getD,b]
 .rw [Ac h];simp[List.getD,Qp h]
def Be (ps:List Nd) (b:Nat):Prop:=∃i,i<ps.length/\(b=(nd ps i).pb\/b=(nd ps i).sb)
structure B6 (w:WD) (gb gs:Nat) (ao:Option Addr) (cap:Nat) (ps:List Nd):Prop where
 head:w.heap[gb]?=Z (V #[J ao ps.length cap] 354 (0,0))
 addr:0<ps.length->ao=Z ⟨gs,0,I⟩
 ptr:∀i,i<ps.length->w.cell? ⟨gs,i,I⟩=Z (Q (Z ⟨(nd ps i).pb,0,I⟩))
 gd:∀i,i<ps.length->Ci w (nd ps i).pb (nd ps i).sb (nd ps i).cap (nd ps i).whole (nd ps i).l
 inv:∀i,i<ps.length->Inv (nd ps i).whole (nd ps i).l
 apart:∀i j,i<ps.length->j<ps.length->i≠j->(nd ps i).pb≠(nd ps j).pb/\(nd ps i).pb≠(nd ps j).sb/\(nd ps i).sb≠(nd ps j).sb
 own:∀i,i<ps.length->(nd ps i).pb≠gb/\(nd ps i).sb≠gb/\(nd ps i).pb≠gs/\(nd ps i).sb≠gs
 gq:ps.length<=16
def B6.tg  {d a cap:Nat} {c:Option Addr} {b:List Nd} (h:B6 w d a c cap b) (h0:0<b.length):a<w.heap.size:=Uc w _ (h.ptr 0 h0)
def B6.below  {d e cap:Nat} {c:Option Addr} {f:List Nd} (h:B6 w d e c cap f) (b:BW w.heap.size w w'):B6 w' d e c cap f:=
 ⟨Ae b h.head (Ab h.head),h.addr,λi a=>(Ag b (Uc w _ (h.ptr i a))).trans (h.ptr i a),λi a=>(h.gd i a).below b (h.gd i a).lt.1 (h.gd i a).lt.2,h.inv,h.apart,h.own,h.gq⟩
def B6.lq  {e f cap:Nat} {d:Option Addr} {c:List Nd} (h:B6 w e f d cap c) {b:Nat} (g:Be c b):b<w.heap.size:=by
 obtain⟨i,a,rfl|rfl⟩:=g
 .exact (h.gd i a).lt.1
 .exact (h.gd i a).lt.2
def B6.jw  {v s cap:Nat} {ao:Option Addr} {l:List Nd} (h:B6 w v s ao cap l) {i o p:Nat} {z:List St} (m:i<l.length)
  (hp:Ci w' (nd l i).pb o p (nd l i).whole z) (hl:Inv (nd l i).whole z) (r:o=(nd l i).sb\/w.heap.size<=o) (t:Mod (λb=>b=(nd l i).pb\/b=(nd l i).sb) w w') :
  B6 w' v s ao cap (l.set i ⟨(nd l i).pb,o,p,(nd l i).whole,z⟩):=by
 have x:=Ab h.head;have y:=h.tg ao9;have u:=h.own i m;refine⟨?_,?_,?_,?_,?_,?_,?_,?_⟩
 .rw [Do];exact(t.block v x (by rintro(e|e)<;>omega)).trans h.head
 .rw [Do];exact h.addr
 .intro j d;rw[Do]at d;rw[Ms _ m];have:=(Bs (a:=⟨s,j,I⟩) (w:=w) (t.block s y (by rintro(e|e)<;>omega))).trans (h.ptr j d);split
  .rename_i e;subst e;exact this
  .exact this
 .intro j d;rw[Do]at d;rw[Ms _ m];split
  .exact hp
  .rename_i e;have g:=h.gd j d;have f:=h.apart i j m d (λc=>e c.symm);have hb:=h.apart j i d m e;have h1:=t.block _ g.lt.1 (by rintro(c|c);exact f.1 c.symm;exact hb.2.1 c);have h2:=t.block _ g.lt.2 (by rintro(c|c);exact f.2.1 c.symm;exact f.2.2 c.symm);exact⟨h1.trans g.head,g.row.of_block h2,g.ne⟩
 .intro j d;rw[Do]at d;rw[Ms _ m];split
  .exact hl
  .exact h.inv j d
 .intro j k d q n;rw[Do]at d q;rw[Ms _ m,Ms _ m];by_cases e1:j=i
  .subst e1;rw[Ad rfl,Ac (Qp n)];have f:=h.apart j k d q n;refine⟨f.1,f.2.1,?_⟩;rcases r with e|e
   .simp only[e];exact f.2.2
   .have:=(h.gd k q).lt.2;simp only;omega
  .rw [Ac e1];by_cases e2:k=i
   .subst e2;rw[Ad rfl];have f:=h.apart j k d q n;refine⟨f.1,?_,?_⟩
    .rcases r with e|e
     .simp only[e];exact f.2.1
     .have:=(h.gd j d).lt.1;simp only;omega
    .rcases r with e|e
     .simp only[e];exact f.2.2
     .have:=(h.gd j d).lt.2;simp only;omega
   .rw [Ac e2];exact h.apart j k d q n
 .intro j d;rw[Do]at d;rw[Ms _ m];split
  .refine ⟨u.1,?_,u.2.2.1,?_⟩
   .rcases r with e|e
    .simp only[e];exact u.2.1
    .simp only;omega
   .rcases r with e|e
    .simp only[e];exact u.2.2.2
    .simp only;omega
  .exact h.own j d
 .rw [Do];exact h.gq
def zi (zs:List Int) (i:Nat):Int:=zs.getD i 0
structure Ap (w:WD) (ao:Option Addr) (n:Nat) (zs:List Int):Prop where
 len:zs.length=n
 max:n<=9223372036854775807
 cell:∀i,i<n->∃b off,ao=Z ⟨b,off,I⟩/\b<w.heap.size/\w.cell? ⟨b,off+i,I⟩=Z (G O (zi zs i))
def xa (ao:Option Addr) (S:Nat->Prop):Prop:=∀b off,ao=Z ⟨b,off,I⟩->¬S b
def Ap.below  {d:Option Addr}   (h:Ap w d n zs) {B:Nat} (f:BW B w w') (k:w.heap.size<=B):Ap w' d n zs:=
 ⟨h.len,h.max,λi j=>by
  obtain⟨b,c,e,a,g⟩:=h.cell i j
  exact⟨b,c,e,By a f.size,(Ag f ao9).trans g⟩⟩
def Ap.mod  {f:Option Addr}   {S:Nat->Prop} (h:Ap w f n zs) (g:Mod S w w') (l:0<n->xa f S):Ap w' f n zs:=
 ⟨h.len,h.max,λi k=>by
  obtain⟨b,c,e,d,j⟩:=h.cell i k
  exact⟨b,c,e,By d g.size,(Bs (a:=⟨b,c+i,I⟩) (w:=w) (g.block b d (l ao9 b c e))).trans j⟩⟩
structure Ef (n:Nat) (zs:List Int):Prop where
 pos:0<zs.length
 low:∀i,i<zs.length->0<=zi zs i
 high:∀i,i<zs.length->zi zs i<n
 bj:∀i,i+1<zs.length->zi zs i<zi zs (i+1)
def Aut (n:Nat) (zs:List Int) (w:WD) (e:Ending) (w':WD):Prop:=
 ∃b:Bool,e=K (D b)/\(b=true↔Ef n zs)/\BW w.heap.size w w'
def Auu (gb gs cap:Nat) (po:Option Addr) (ps:List Nd) (ao:Option Addr) (m c:Nat) (zs:List Int) (w:WD) (hp:B6 w gb gs po cap ps) (v:Ap w ao m zs) :
  Calls prog 284 #[Q (Z ⟨gb,0,I⟩),J ao m c] w (Aut ps.length zs w):=by
 obtain⟨n,hn⟩:=Ex (ps.length);have hh:=hp.head;have ac:=hp.gq;rw[<-hn]at hh ac;have c0:=Aa hh 0;simp at c0;have al:=Ab hh;rw[<-hn];clear hp hh hn;have f:=v.len;have am:=v.max;replace⟨v,f⟩:=H2 v f;by_cases h0:m=0
 .have d0:((m:Int) == 0)=true:=by rw[h0];rfl
  replace h0:=Hh h0;go_enter func284,ntmps284;go_wp2;go_ret;exact⟨false,rfl,⟨λh=>by simp at h,λh=>by have:=h.pos;have:=f.out;have:=h0.out;omega⟩,Below.refl _ _⟩
 have d0:((m:Int) == 0)=false:=Bj.2 ao9;have aD:0<m:=ao9
 replace h0:=Hh h0;go_enter func284,ntmps284;go_wp2;go_loopw [5,6,16] (λ_ _ i wr=>∃k:Nat,i=G O k/\k<=m/\Hid (∀i,i<k->0<=zi zs i/\zi zs i<n/\(∀j,i=j+1->zi zs j<zi zs i))/\Hid (BW w.heap.size w wr)) (λ_ _ i _=>m-(intOf i).toNat)
 case atStart=>exact⟨0,rfl,As _,(λi h=>by omega),Below.refl _ _⟩
 case round=>
  obtain⟨k,rfl,hk,l,g⟩:=hrel;have g0:=(Ag (o:=0) g.out al).trans c0;by_cases hc:k<m
  .have af:(k:Int)<m:=ao9;have aB:(0:Int)<=(k:Int):=ao9;obtain⟨b,aF,rfl,hb,a0⟩:=v.cell k hc;have b0:=(Ag g.out hb).trans a0;clear a0;obtain⟨x,q⟩:=Ex (zi zs k);rw[<-q]at b0;replace q:=Hh q
   have s:Hid (¬(0<=x/\x<n/\∀j,k=j+1->zi zs j<x)->¬Ef n zs):=λh hg=>by
    have u:k<zs.length:=(by rw[f.out];exact hc);refine h ⟨by rw[q.out];exact hg.low k u,by rw[q.out];exact hg.high k u,λj e=>?_⟩;subst e;rw[q.out];exact hg.bj j u
   by_cases p:x<0
   .have d1:decide (x<0)=true:=(by simpa using p);have a:=s ao9;replace⟨p,a⟩:=H2 p a;go_wp2;go_ret;exact⟨false,rfl,⟨λh=>by simp at h,λh=>absurd h a.out⟩,g.out⟩
   have d1:decide (x<0)=false:=(by simpa using p);by_cases r:(n:Int)<=x
   .have d2:decide ((n:Int)<=x)=true:=(by simpa using r);have a:=s ao9;replace⟨p,r,a⟩:=H3 p r a;go_wp2;go_ret;exact⟨false,rfl,⟨λh=>by simp at h,λh=>absurd h a.out⟩,g.out⟩
   have d2:decide ((n:Int)<=x)=false:=by simpa using r
   cases k with
   | zero=>
    rw[Iu]at b0
    have d:∀i,i<0+1->0<=zi zs i/\zi zs i<n/\(∀j,i=j+1->zi zs j<zi zs i):=by
     intro i t
     have:i=0:=ao9
     subst this;exact⟨by rw[<-q.out];omega,by rw[<-q.out];omega,λj e=>by omega⟩
    replace⟨p,r,d⟩:=H3 p r d;go_wp2;go_roundw
    case rel=>exact⟨0+1,by go_num,ao9,d.out,g.out⟩
    case measure=>simp[intOf];omega
   | succ j=>
    obtain⟨b',an,e',ad,a1⟩:=v.cell j ao9;cases e';have b1:=(Ag g.out ad).trans a1;clear a1;obtain⟨y,hy⟩:=Ex (zi zs j);rw[<-hy]at b1;replace hy:=Hh hy;have ej:IntKind.i64.wrap (((j+1:Nat):Int)-1)=(j:Int):=(by rw[Fr _ ao9];omega);have ap:IntKind.i64.wrap ((j:Int)+1-1)=(j:Int):=(by rw[Fr _ ao9];omega);have aA:(j:Int)<m:=ao9;have av:(0:Int)<=(j:Int):=ao9;have aE:(0:Int)<(j:Int)+1:=ao9;by_cases z:x<=y
    .have d3:decide (x<=y)=true:=(by simpa using z);have a:=s (λh=>by have:=h.2.2 j rfl;rw[<-hy.out]at this;omega);replace⟨p,r,z,a⟩:=H4 p r z a;go_wp2;go_ret;exact⟨false,rfl,⟨λh=>by simp at h,λh=>absurd h a.out⟩,g.out⟩
    .have d3:decide (x<=y)=false:=by simpa using z
     have d:∀i,i<j+1+1->0<=zi zs i/\zi zs i<n/\(∀j,i=j+1->zi zs j<zi zs i):=by
      intro i t;by_cases e:i=j+1
      .subst e;refine⟨by rw[<-q.out];omega,by rw[<-q.out];omega,λj2 e=>?_⟩
       have:j2=j:=ao9
       subst this;rw[<-q.out,<-hy.out];omega
      .exact l.out i ao9
     replace⟨p,r,z,d⟩:=H4 p r z d;go_wp2;go_roundw
     case rel=>exact⟨j+1+1,by go_num,ao9,d.out,g.out⟩
     case measure=>simp[intOf];omega
  .have af:¬(k:Int)<m:=ao9;have aC:k=m:=ao9;go_wp2;go_ret;refine⟨true,rfl,⟨λ_=>⟨by rw[f.out];omega,λi t=>?_,λi t=>?_,λi t=>?_⟩,λ_=>rfl⟩,g.out⟩
   .rw [f.out]at t;exact(l i ao9).1
   .rw [f.out]at t;exact(l i ao9).2.1
   .rw [f.out]at t;exact(l (i+1) ao9).2.2 i rfl
