/- Parts of a proof. No condition. -/
import Derived.Test.YtimlcnhcjndijaaGreatDoorH19
import Derived.Deep.DeepCutAuto
set_option linter.all false
set_option maxRecDepth 100000
set_option maxHeartbeats 1600000
namespace Go.Proofs.YtimlcnhcjndijaaGreatDoor
open Option renaming none->I,some->O
open Value renaming pointer->K,int->Z,tuple->D,slice->V,bool->Y
open IntKind renaming i64->G
open Obj renaming cells->J
open Ending renaming returned->Q
open Go renaming World->WD
open Go.RowKit renaming Below->BW
open Go.Proofs.Tryz
namespace Pl
open Go.RowKit
variable{zs:List Int}{k n:Nat}{whole:V4}{w w':WD}
def Ahf (whole:V4) (l:List St) (fr tt:Int) (v:V4) (r:Int) (l':List St):Prop:=
 (Bf fr tt v=false/\r=1/\l'=l)\/(Bf fr tt v=true/\¬(((E5 l fr tt).add v).2=0/\((E5 l fr tt).add v).1.fits whole=true)/\r=61/\l'=l) \/
  (Bf fr tt v=true/\((E5 l fr tt).add v).2=0/\((E5 l fr tt).add v).1.fits whole=true/\r=0/\Qr l fr tt (λf=>(f.add v).1) l')
def Sq {W w1:WD} (a:BW W.heap.size W w1):(∀b o,b<W.heap.size->w1.cell? ⟨b,o,I⟩=W.cell? ⟨b,o,I⟩)/\(∀b o,b<W.heap.size->w1.frozen? ⟨b,o,I⟩=W.frozen? ⟨b,o,I⟩):=
 ⟨λb o h=>a.cell (p:=⟨b,o,I⟩) h,λb o h=>a.frozen (p:=⟨b,o,I⟩) h⟩
def Ahg (B:Nat) (w:WD) (n:Nat):BW B w (w.drewN n):=⟨rfl,rfl,rfl,Nat.le_refl _,λ_ _=>rfl⟩
def Yc (w2:WD) (r:V4×Int) (s9 s10:Value) (wx:WD):Prop:=
 ∃g:Nat,s9=K (O ⟨g,0,I⟩)/\s10=Z G r.2/\w2.heap.size<=g/\wx.heap[g]?=O (J r.1.cells 30 (0,0))/\BW w2.heap.size w2 wx
def World.qu (w:WD) (b:Nat) (v:V4):WD:=
 (((w.setCell ⟨b,0,I⟩ (Z G v.a)).setCell ⟨b,1,I⟩ (Z G v.b)).setCell ⟨b,2,I⟩ (Z G v.c)).setCell ⟨b,3,I⟩ (Z G v.d)
def Ahh  {b:Nat} {u:V4} (h:w.heap[b]?=O (J u.cells 30 (0,0))) (v:V4):(World.qu w b v).heap[b]?=O (J v.cells 30 (0,0)):=by
 unfold World.qu;rw[Am (Am (Am (Am h _ _) _ _) _ _) _ _];simp
def Ahi {B:Nat}  (h:BW B w w') {b:Nat} (a:B<=b) (v:V4):BW B w (World.qu w' b v):=
 (((h.setCell a _).setCell a _).setCell a _).setCell a _
def Ar8 {c d e:WD} {r:V4×Int} (a:BW c.drew.heap.size c.drew d) (b:BW d.heap.size d e) :
  Yc c r (K (O ⟨e.heap.size,0,I⟩)) (Z G r.2) (e.alloc (J r.1.cells 30)):=by
 have f:=(G2 a).size;have g:=b.size;exact⟨_,rfl,rfl,ao9,Ah _ _,((G2 a).trans (b.mono f)).alloc (by show c.heap.size<=_;omega) _⟩
def Ar9 {e c f:WD} {r:V4×Int} (b:BW e.drew.heap.size e.drew c) (a:BW (c.alloc (J V4.zero.cells 30)).heap.size (c.alloc (J V4.zero.cells 30)) f) :
  Yc e r (K (O ⟨c.heap.size,0,I⟩)) (Z G r.2) (World.qu f c.heap.size r.1):=by
 have d:=(G2 b).size;have g:=a.size;simp at g;refine⟨_,rfl,rfl,d,Ahh (Ae a (Ah _ _) as9) _,Ahi ?_ d _⟩;exact((G2 b).alloc d _).trans (a.mono (by simp;exact Nat.le_succ_of_le d))
def Asa {c e f:WD} {r:V4×Int} (d:BW (c.alloc (J V4.zero.cells 30)).drew.heap.size (c.alloc (J V4.zero.cells 30)).drew e) (b:BW e.heap.size e f) :
  Yc c r (K (O ⟨c.heap.size,0,I⟩)) (Z G r.2) (World.qu f c.heap.size r.1):=by
 have a:=G2 d;have g:=a.size;simp at g;refine⟨_,rfl,rfl,Nat.le_refl _,Ahh (Ae b (Ae a (Ah _ _) as9) ao9) _,Ahi ?_ Ln _⟩;exact(Bn.trans (a.mono as9)).trans (b.mono ao9)
def Ahj (pb x cap:Nat) (whole:V4) (l:List St) (fr y:Int) (v:V4) (w:WD) (hp:Ce w pb x cap whole l) (hl:B9 l) :
  Calls prog 243 #[K (O ⟨pb,0,I⟩),Z G fr,Z G y,v.val] w (Abm pb x whole (Ahf whole l fr y v) w):=by
 obtain⟨av,aA⟩:=hp.lt;replace⟨hp,hl⟩:=H2 hp hl;go_enter func243,ntmps243;go_wp2_with fail;refine(Ahc fr y v _).mono ?_;rintro e w2 ⟨rfl,z⟩;have i:=Bn.trans (z.mono as9);have g2:=Ae z (Ah _ _) as9;have d:=hp.below i av aA;have s2:=i.size;have aK:=Ac g2;replace⟨z,i,d⟩:=H3 z i d;by_cases hs:Bf fr y v=true
 .rw [hs];obtain⟨b1,b2,b3,b4⟩:=Mf hs;have x0:=Aa g2 0;have x1:=Aa g2 1;have x2:=Aa g2 2;have x3:=Aa g2 3;simp at x0 x1 x2 x3;replace⟨g2,hs,b4⟩:=H3 g2 hs b4;have aI:Hid (Ce w2.drew pb x cap whole l):=d.drew;have aJ:Hid (∀o,Ce (w2.alloc o).drew pb x cap whole l):=λo=>(d.below ((Below.refl _ _).alloc Ln o) d.lt.1 d.lt.2).drew;obtain⟨r,hr⟩:=Ex ((E5 l fr y).add v)
  have q:∀w,Calls prog 281 #[(E5 l fr y).val,v.val] w λe w'=>e=Q (D #[r.1.val,Z G r.2])/\BW w.heap.size w w':=by rw[hr];exact Agu _ _
  replace⟨q,hr⟩:=H2 q hr;have aQ:w.heap.size<w2.heap.size+1:=ao9
  go_upto_region 3 with fail;go_cut [9,10] (λs9 aL wx=>Yc w2 r s9 aL wx)
  case first=>
   go_region_law
    (first
      | (go_simp;go_at_call 282
         (first
           | refine(Ahb pb x cap whole l fr y _ aI.out hl.out b1 ao9).mono ?_
           | refine(Ahb pb x cap whole l fr y _ (aJ _) hl.out b1 ao9).mono ?_)
         rintro e w3 ⟨rfl,b⟩;have s3:=b.size;obtain⟨aC,aG⟩:=Sq b
         (try simp at s3)
         (try simp at aC)
         (try simp at aG)
         have aR:w.heap.size<w3.heap.size:=ao9
         (try have aN:w2.heap.size<w3.heap.size:=by omega)
         replace b:=Hh b)
      | (go_simp;go_at_call 281;refine(q _).mono ?_;rintro e w4 ⟨rfl,c⟩;have s4:=c.size;obtain⟨aD,aH⟩:=Sq c
         (try simp at s4)
         (try simp at aD)
         (try simp at aH)
         (try have aO:w3.heap.size<w4.heap.size:=by omega)
         (try have aP:w2.heap.size<w4.heap.size:=by omega)
         replace c:=Hh c))
   all_goals
    go_wp2_with fail;go_meet
    first
     | exact Ar8 b.out c.out
     | exact Ar9 b.out c.out
     | exact Asa b.out c.out
  case rest=>
   obtain⟨g,rfl,rfl,hg,n,p⟩:=hcut;have m:=i.trans (p.mono s2);have a:=hp.below m av aA;have gv:=Ae p g2.out aK;have sx:=m.size;have e0:=Aa n 0;have e1:=Aa n 1;have e2:=Aa n 2;have e3:=Aa n 3;have q0:=Aa a.head 0;have q1:=Aa a.head 1;have q2:=Aa a.head 2;have q3:=Aa a.head 3;simp at e0 e1 e2 e3 q0 q1 q2 q3;clear x0 x1 x2 x3;replace⟨n,p,m,a,gv⟩:=H5 n p m a gv;by_cases u:r.2=0
   .have aE:(r.2 == 0)=true:=(by simpa using u);have aF:(r.2 != 0)=false:=(by simpa using u);replace u:=Hh u;go_wp2_with fail;go_region_law
     (first
       | (go_simp;go_at_call 65;refine(Ww r.1 whole _).mono ?_;rintro e w5 ⟨rfl,am⟩
          replace am:=Hh am))
    all_goals
     have t:=G2 am.out;have j:=m.trans (t.mono (by simpa using sx));have ad:=hp.below j av aA;have al:=Ae t gv.out (by have:=p.size;simp;omega);have s5:=j.size;replace⟨ad,j,al⟩:=H3 ad j al;clear t;by_cases hf:r.1.fits whole=true
     .simp only[hf];replace hf:=Hh hf;go_wp2_with fail;refine(Ag7 pb x cap w.heap.size v whole l fr y 283 (λf=>(f.add v).1) _ ad.out hl.out b1 b2 b3 al.out ao9 ao9 Ar5 (λs w1 h=>Ar7 s v _ w1 h)).mono ?_;rintro e w6 ⟨rfl,aM,aB,l',hc,ao,ap,an⟩;replace⟨hc,ao,ap,an⟩:=H4 hc ao ap an;go_wp2;go_ret;refine⟨0,aM,aB,l',rfl,.inr (.inr ⟨hs.out,by rw[<-hr.out];exact u.out,by rw[<-hr.out];exact hf.out,rfl,hc.out⟩),ao.out,?_,(Mod.ag j.out).trans (an.mono λk _ h=>.inl h)⟩;rcases ap.out with h|h
      .exact .inl h
      .exact .inr (Aw s5 h)
     .have ac:r.1.fits whole=false:=(by simpa using hf);simp only[ac];replace ac:=Hh ac;clear hf;go_wp2;go_ret;exact⟨61,x,cap,l,rfl,.inr (.inl ⟨hs.out,(λh=>by have:=ac.out;rw[hr.out,h.2]at this;cases this),rfl,rfl⟩),ad.out,.inl rfl,Mod.ag j.out⟩
   .have aE:(r.2 == 0)=false:=(by simpa using u);have aF:(r.2 != 0)=true:=(by simpa using u);replace u:=Hh u;go_wp2_with fail;go_quiet (fail);go_wp2;go_ret;exact⟨61,x,cap,l,rfl,.inr (.inl ⟨hs.out,(λh=>u.out (by rw[hr.out];exact h.1)),rfl,rfl⟩),a.below (Ahg _ _ _) a.lt.1 a.lt.2,.inl rfl,Mod.ag (m.trans (Ahg _ _ _))⟩
 .have af:Bf fr y v=false:=by simpa using hs
  rw[af];replace af:=Hh af;clear hs;go_wp2;go_ret;exact⟨1,x,cap,l,rfl,.inl ⟨af.out,rfl,rfl⟩,d.out,.inl rfl,Mod.ag i.out⟩
def Ey (d:V4):List St->Int->V4
 | [],_=>d
 | s :: r,u=>if s.t<=u then Ey s.f r u else d
def val (l:List St) (u:Int):V4:=Ey V4.zero l u
def Pe:List St->Prop
 | []=>True
 | s :: r=>(∀x∈r,s.t<x.t)/\Pe r
def Sr {l:List St} {x:St} (h:x∈l):∃i,i<l.length/\nth l i=x:=by
 obtain⟨i,a,rfl⟩:=Pw.1 h;exact⟨i,a,by simp[nth,a]⟩
def Abn {l:List St} {i:Nat} (h:i<l.length):nth l i∈l:=by
 simp[nth,h]
def Abo (l:List St) (h:Me l):Pe l:=by
 induction l with
 | nil=>trivial
 | cons s r ih=>
  refine⟨λx b=>?_,ih (Abl h)⟩;obtain⟨i,a,rfl⟩:=Sr b;have:=h 0 (i+1) ao9 (by simpa using a)
  rwa [Jd,Eo]at this
def Asd (l:List St) (h:Pe l):Me l:=by
 induction l with
 | nil=>intro i j _ a;simp at a
 | cons s r ih=>
  intro i j b a
  cases j with
  | zero=>omega
  | succ j=>
   cases i with
   | zero=>rw[Jd,Eo];exact h.1 _ (Abn (by simpa using a))
   | succ i=>rw[Eo,Eo];exact ih h.2 i j ao9 (by simpa using a)
def Oe {d:V4} {l:List St} {u:Int} (h:∀x∈l,u<x.t):Ey d l u=d:=by
 cases l with
 | nil=>rfl
 | cons s r=>simp only[Ey];rw[Ab (by have:=h s as9;omega)]
def Ase {d:V4} {l:List St} {u:Int}  (e:Me l) (h:Kk l u k):Ey d l u=(nth l k).f:=by
 induction l generalizing d k with
 | nil=>exact absurd h.1 as9
 | cons s r ih=>
  obtain⟨h1,a,c⟩:=h;simp only[Ey]
  cases k with
  | zero=>
   rw[Jd]at a ⊢;rw[Ad a,Oe];intro x m;obtain⟨i,g,rfl⟩:=Sr m;have:=c (i+1) ao9 (by simpa using g)
   rwa [Eo]at this
  | succ k=>
   have h0:=e 0 (k+1) ao9 h1;rw[Eo]at a h0 ⊢;rw[Jd]at h0;rw[Ad ao9];exact ih (Abl e) ⟨by simpa using h1,a,λj n b=>by have:=c (j+1) ao9 (by simpa using b);rwa [Eo]at this⟩
def Mg {l:List St} {u:Int}  (a:Me l) (h:Kk l u k):val l u=(nth l k).f:=Ase a h
def Uo {l:List St} (b:B9 l) {u:Int} (g:0<=u):∃k,Kk l u k:=by
 have c:∀n,n<l.length->(∃k,Kk l u k)\/(nth l n).t<=u:=by
  intro n
  induction n with
  | zero=>intro _;right;rw[b.zero];exact g
  | succ n ih=>
   intro i;rcases ih ao9 with h|h
   .exact .inl h
   .by_cases d:(nth l (n+1)).t<=u
    .exact .inr d
    .refine .inl ⟨n,ao9,h,λj f a=>?_⟩;by_cases e:j=n+1
     .subst e;omega
     .have:=b.bj (n+1) j ao9 a;omega
 have m:=b.pos;rcases c (l.length-1) ao9 with h|h
 .exact h
 .exact ⟨l.length-1,ao9,h,λj f a=>by omega⟩
def Ahm {l x:List St} {t:Int}  (g:B9 l) (h:Qq l t n x) (ht:t<1099511627776) {u:Int} (hu:0<=u):val x u=val l u:=by
 obtain⟨a,_,_,_,_,_⟩:=h.facts g ht;obtain⟨k,z,h⟩:=h;rcases h with⟨_,rfl,_⟩|⟨h1,rfl,rfl⟩
 .rfl
 .obtain ⟨j,r⟩:=Uo g hu;rw[Mg g.bj r];obtain⟨v,k2,k3⟩:=z;obtain⟨j1,o,p⟩:=r;have b:=Ag2 l k t v;have s:=Abh l k t v;by_cases y:j<k
  .rw [Mg a.bj (k:=j) ⟨ao9,by rw[b j ao9,Ad ao9];exact o,λi q c=>?_⟩,b j ao9,Ad ao9];have h3:=p (j+1) ao9 ao9;have h4:(nth (Kl l k t) (j+1)).t=(nth l (j+1)).t:=(by rw[b (j+1) ao9,Ad ao9]);by_cases e:i=j+1
   .subst e;omega
   .have:=a.bj (j+1) i ao9 c;omega
  .by_cases m:t<=u
   .have e:(nth (Kl l k t) (j+1)).f=(nth l j).f/\(nth (Kl l k t) (j+1)).t<=u:=by
     rw[b (j+1) ao9,Ab ao9];by_cases e:j=k
     .subst e;rw[Ad rfl];exact⟨rfl,m⟩
     .rw [Ab ao9,Nat.add_sub_cancel];exact⟨rfl,o⟩
    rw[Mg a.bj (k:=j+1) ⟨ao9,e.2,λi q c=>?_⟩,e.1];rw[b i ao9,Ab ao9,Ab ao9];exact p (i-1) ao9 ao9
   .have d:j=k:=(by apply Is;intro hc;have:=k3 j ao9 j1;omega);subst d;rw[Mg a.bj (k:=j) ⟨ao9,by rw[b j ao9,Ad ao9];exact o,λi q c=>?_⟩,b j ao9,Ad ao9];rw[b i ao9,Ab ao9];split
    .show u<t;omega
    .exact p (i-1) ao9 ao9
def Asf {l:List St} (r:B9 l) (g:V4->V4) {i e:Nat} (h:i<=e) (q:e<=l.length) {u:Int}  (f:Kk l u k) :
  val (Gp g i e l) u=if i<=k/\k<e then g (val l u)else val l u:=by
 have s:=Sp g i e l h q;have c:=So g i e l h q
 have m:∀j,j<l.length->(nth (Gp g i e l) j).t=(nth l j).t:=λj p=>by rw[s j p];split<;>rfl
 have v:Me (Gp g i e l):=λa b n o=>by rw[c]at o;rw[m a ao9,m b o];exact r.bj a b n o
 rw[Mg v (k:=k) ⟨by rw[c];exact f.1,by rw[m k f.1];exact f.2.1,λj p d=>by rw[c]at d;rw[m j d];exact f.2.2 j p d⟩,s k f.1,Mg r.bj f]
 split<;>rfl
def Asg {l:List St} (f:B9 l) (g:V4->V4) {i e:Nat} (h:i<=e) (o:e<=l.length):B9 (Gp g i e l):=by
 have p:=Sp g i e l h o;have c:=So g i e l h o
 have k:∀j,j<l.length->(nth (Gp g i e l) j).t=(nth l j).t:=λj d=>by rw[p j d];split<;>rfl
 have q:=f.pos;exact⟨ao9,by rw[k 0 q];exact f.zero,λa b m n=>by rw[c]at n;rw[k a ao9,k b n];exact f.bj a b m n,λj d=>by rw[c]at d;rw[k j d];exact f.last j d⟩
def Abp (p:V4) (l:List St):∀x∈Fp p l,x∈l:=by
 induction l generalizing p with
 | nil=>simp[Fp]
 | cons s r ih=>
  intro x a;simp only[Fp]at a;split at a
  .exact Dj _ (ih _ x a)
  .rcases Eh.1 a with rfl|h
   .simp
   .exact Dj _ (ih _ x h)
def Ash (p:V4) (l:List St) (h:Pe l):Pe (Fp p l):=by
 induction l generalizing p with
 | nil=>exact h
 | cons s r ih=>
  simp only[Fp];split
  .exact ih _ h.2
  .exact ⟨λx a=>h.1 x (Abp _ _ x a),ih _ h.2⟩
def Asi (p:V4) (l:List St) (h:Pe l) (u:Int):Ey p (Fp p l) u=Ey p l u:=by
 induction l generalizing p with
 | nil=>rfl
 | cons s r ih=>
  simp only[Fp,Ey];by_cases a:s.f=p
  .rw [Ad a];have e:=ih s.f h.2;rw[a]at e ⊢;rw[e];by_cases b:s.t<=u
   .rw [Ad b]
   .rw [Ab b]
    exact Oe λx c=>by have:=h.1 x c;omega
  .rw [Ab a];simp only[Ey];rw[ih s.f h.2]
def vg (p:V4):List St->Prop
 | []=>True
 | s :: r=>s.f≠p/\vg s.f r
def Asj (p:V4) (l:List St):vg p (Fp p l):=by
 induction l generalizing p with
 | nil=>trivial
 | cons s r ih=>
  simp only[Fp];split
  .next h=>have:=ih s.f;rw[h]at this ⊢;exact this
  .next h=>exact⟨h,ih s.f⟩
def Asl {p:V4} {l:List St} (h:vg p l):∀i,i+1<l.length->(nth l i).f≠(nth l (i+1)).f:=by
 induction l generalizing p with
 | nil=>intro i a;simp at a
 | cons s r ih=>
  intro i a
  cases i with
  | zero=>
   cases r with
   | nil=>simp at a
   | cons s2 r2=>rw[Jd,Eo,Jd];exact P7 h.2.1
  | succ i=>rw[Eo,Eo];exact ih h.2 i (by simpa using a)
def Ahn (s:St) (r:List St) (h:∀i,i+1<(s :: r).length->(nth (s :: r) i).f≠(nth (s :: r) (i+1)).f):vg s.f r:=by
 induction r generalizing s with
 | nil=>trivial
 | cons s2 r ih=>
  refine⟨?_,ih s2 λi a=>?_⟩
  .have:=h 0 as9;rw[Jd,Eo,Jd]at this;exact P7 this
  .have:=h (i+1) (by simpa using a);rwa [Eo,Eo]at this
def Asm {l:List St} (c:B9 l):B9 (B5 l)/\(∀u,val (B5 l) u=val l u)/\(∀x∈B5 l,x∈l)/\(∀i,i+1<(B5 l).length->(nth (B5 l) i).f≠(nth (B5 l) (i+1)).f):=by
 cases l with
 | nil=>exact absurd c.pos as9
 | cons s r=>
  have d:=Abo _ c.bj
  have b:∀x∈B5 (s :: r),x∈s :: r:=by
   intro x g;rcases Eh.1 g with rfl|h
   .simp
   .exact Dj _ (Abp _ _ x h)
  refine⟨⟨by simp[B5],c.zero,Asd _ ⟨λx g=>d.1 x (Abp _ _ x g),Ash _ _ d.2⟩,λi k=>?_⟩,λu=>?_,b,?_⟩
  .obtain ⟨j,m,e⟩:=Sr (b _ (Abn k));rw[<-e];exact c.last j m
  .simp only[B5,val,Ey];rw[Asi _ _ d.2]
  .exact Asl (p:=⟨s.f.a+1,0,0,0⟩) ⟨λh=>by have:=Ca V4.a h;simp at this;omega,Asj s.f r⟩
def Asn {a:V4} {r e:List St} (t0:Int) (h:Pe r) (i:Pe e) (p:vg a r) (g:vg a e) (n:∀x∈r,t0<=x.t/\x.t<1099511627776) (c:∀x∈e,t0<=x.t/\x.t<1099511627776)
  (j:∀u,t0<=u->u<1099511627776->Ey a r u=Ey a e u):r=e:=by
 induction r generalizing a e t0 with
 | nil=>
  cases e with
  | nil=>rfl
  | cons s' q'=>
   exfalso;have:=j s'.t (c s' as9).1 (c s' as9).2;simp only[Ey]at this;rw[Ad (Df _),Oe i.1]at this;exact g.1 this.symm
 | cons s q ih=>
  cases e with
  | nil=>
   exfalso;have:=j s.t (n s as9).1 (n s as9).2;simp only[Ey]at this;rw[Ad (Df _),Oe h.1]at this;exact p.1 this
  | cons s' q'=>
   have b:=n s as9;have v:=c s' as9;have d:=j s.t b.1 b.2;have m:=j s'.t v.1 v.2;simp only[Ey]at d m;rw[Ad (Df _),Oe h.1]at d;rw[Ad (Df s'.t),Oe i.1]at m
   have o:s.t=s'.t:=by
    apply Is;intro hc;by_cases z:s.t<s'.t
    .rw [Ab ao9]at d;exact p.1 d
    .rw [Ab ao9]at m;exact g.1 m.symm
   rw[Ad ao9]at d;have k:Ey s'.f q' s.t=s'.f:=Oe (by rw[o];exact i.1);rw[k]at d;have hs:s=s':=(by obtain⟨st,sf⟩:=s;obtain⟨ad,ac⟩:=s';simp at o d;rw[o,d]);subst hs;rw[ih s.t h.2 i.2 p.2 g.2 (λx l=>⟨by have:=h.1 x l;omega,(n x (by simp[l])).2⟩) (λx l=>⟨by have:=i.1 x l;omega,(c x (by simp[l])).2⟩) λu h1 y=>?_];have:=j u ao9 y;simp only[Ey]at this
   rwa [Ad h1,Ad h1]at this
def Abq {l d:List St} (h:B9 l) (a:B9 d) (hu:∀i,i+1<l.length->(nth l i).f≠(nth l (i+1)).f) (o:∀i,i+1<d.length->(nth d i).f≠(nth d (i+1)).f)
  (p:∀u,0<=u->u<1099511627776->val l u=val d u):l=d:=by
 cases l with
 | nil=>exact absurd h.pos as9
 | cons s r=>
  cases d with
  | nil=>exact absurd a.pos as9
  | cons s' r'=>
   have n:=Abo _ h.bj;have c:=Abo _ a.bj;have z:s.t=0:=h.zero;have q:s'.t=0:=a.zero
   have y:∀x∈r,0<=x.t/\x.t<1099511627776:=λx b=>by
    have:=n.1 x b;obtain⟨j,m,e⟩:=Sr (Dj s b);exact⟨ao9,by rw[<-e];exact h.last j m⟩
   have k:∀x∈r',0<=x.t/\x.t<1099511627776:=λx b=>by
    have:=c.1 x b;obtain⟨j,m,e⟩:=Sr (Dj s' b);exact⟨ao9,by rw[<-e];exact a.last j m⟩
   have g:=p 0 (Df _) ao9;simp only[val,Ey]at g;rw[Ad ao9,Ad ao9,Oe (λx b=>by have:=n.1 x b;omega),Oe (λx b=>by have:=c.1 x b;omega)]at g;have hs:s=s':=(by obtain⟨st,sf⟩:=s;obtain⟨ad,ac⟩:=s';simp at z q g;rw[z,q,g]);subst hs;rw[Asn 0 n.2 c.2 (Ahn s r hu) (Ahn s r' o) y k λu h1 v=>?_];have:=p u h1 v;simp only[val,Ey]at this
   rwa [Ad ao9,Ad ao9]at this
def Aho (l:List St):Prop:=∀i,i+1<l.length->(nth l i).f≠(nth l (i+1)).f
def Ahp {l p:List St} {fr d:Int} {g:V4->V4} (x:B9 l) (h:Qr l fr d g p) (_h0:0<=fr) (h1:fr<d) (h2:d<=1099511627776) :
  B9 p/\Aho p/\∀u,0<=u->u<1099511627776->val p u=if fr<=u/\u<d then g (val l u)else val l u:=by
 obtain⟨i,l1,e,f,m,c,rfl⟩:=h;obtain⟨j,a1,a2,a3,a4,a5⟩:=m.facts x ao9
 have s:B9 f/\i<=e/\e<=f.length/\(nth f i).t=fr/\i<f.length/\(∀u,0<=u->val f u=val l1 u)/\(d<1099511627776->e<f.length/\(nth f e).t=d)/\(d=1099511627776->e=f.length):=by
  rcases c with⟨n,c⟩|⟨n,rfl,rfl⟩
  .obtain ⟨a,b1,b2,b3,b4,b5⟩:=c.facts j n;obtain⟨v,q⟩:=b4 i a1 ao9;exact⟨a,ao9,ao9,by rw[q];exact a2,ao9,λu o=>Ahm j c n o,λ_=>⟨b1,b2⟩,λh=>by omega⟩
  .exact ⟨j,ao9,Nat.le_refl _,a2,a1,λ_ _=>rfl,λh=>by omega,λ_=>rfl⟩
 obtain⟨a,y,z,k3,k4,k5,k6,k7⟩:=s;obtain⟨v,q,c3,c4⟩:=Asm (Asg a g y z);refine⟨v,c4,λu o al=>?_⟩;obtain⟨k,b⟩:=Uo a o;rw[q,Asf a g y z b,k5 u o,Ahm x m ao9 o]
 have e1:i<=k↔fr<=u:=by
  constructor
  .intro ad;by_cases e:i=k
   .subst e;have:=b.2.1;omega
   .have:=a.bj i k ao9 b.1;have:=b.2.1;omega
  .intro ac;apply Is;intro hc;have:=b.2.2 i ao9 k4;omega
 have e2:k<e↔u<d:=by
  have af:=b.1;by_cases n:d<1099511627776
  .obtain ⟨g1,g2⟩:=k6 n;constructor
   .intro r;have:=b.2.2 e r g1;omega
   .intro am;apply Is;intro hc;by_cases e':e=k
    .subst e';have:=b.2.1;omega
    .have:=a.bj e k ao9 b.1;have:=b.2.1;omega
  .have:=k7 ao9;omega
 simp only[e1,e2]
structure Inv (whole:V4) (l:List St):Prop where
 right:whole.right=true
 loose:B9 l
 gy:Aho l
 free:∀u,0<=u->u<1099511627776->(val l u).right=true/\(val l u).fits whole=true
def _root_.Go.Proofs.YtimlcnhcjndijaaGreatDoor.V4.leq (u v:V4):Prop:=u.a<=v.a/\u.b<=v.b/\u.c<=v.c/\u.d<=v.d
def Le {u v:V4}:u.fits v=true↔u.leq v:=by simp[V4.fits,V4.leq,and_assoc]
def Aso {u v:V4}:u.fits v=false↔¬u.leq v:=by rw[<-Le];simp
def E6 {u:V4}:u.right=true↔(0<=u.a/\u.a<=1073741824)/\(0<=u.b/\u.b<=1073741824)/\(0<=u.c/\u.c<=1073741824)/\(0<=u.d/\u.d<=1073741824):=by
 simp[V4.right,oz,and_assoc]
def Asp {u v:V4} (e:u.right=true) (f:v.right=true) (h:v.leq u):u.sub v=(⟨u.a-v.a,u.b-v.b,u.c-v.c,u.d-v.d⟩,0):=by
 have h1:=E6.1 e;have g:=E6.1 f;obtain⟨a,b,c,d⟩:=h;unfold V4.sub;rw[Ad ⟨e,f⟩];unfold V4.told;rw[Ad];rw[E6]
 refine⟨⟨?_,?_⟩,⟨?_,?_⟩,⟨?_,?_⟩,⟨?_,?_⟩⟩<;>simp only<;>omega
def Abr {u v:V4} (e:u.right=true) (f:v.right=true) (h:(⟨u.a+v.a,u.b+v.b,u.c+v.c,u.d+v.d⟩:V4).right=true):u.add v=(⟨u.a+v.a,u.b+v.b,u.c+v.c,u.d+v.d⟩,0):=by
 unfold V4.add;rw[Ad ⟨e,f⟩];unfold V4.told;rw[Ad h]
def Asq {u v:V4} (e:u.right=true) (f:v.right=true) (h:¬(⟨u.a+v.a,u.b+v.b,u.c+v.c,u.d+v.d⟩:V4).right=true):(u.add v).2=30:=by
 unfold V4.add;rw[Ad ⟨e,f⟩];unfold V4.told;rw[Ab h]
def Asr {l:List St} (b:B9 l) {i:Nat} (c:i<l.length):val l (nth l i).t=(nth l i).f:=
 Mg b.bj ⟨c,Df _,λj d a=>b.bj i j d a⟩
structure Ass (whole:V4) (S:Int->Prop) (F:Int->V4) (m:V4):Prop where
 low:∀u,S u->m.leq (F u)
 cap:m.leq whole
 a:m.a=whole.a\/∃u,S u/\m.a=(F u).a
 b:m.b=whole.b\/∃u,S u/\m.b=(F u).b
 c:m.c=whole.c\/∃u,S u/\m.c=(F u).c
 d:m.d=whole.d\/∃u,S u/\m.d=(F u).d
structure Ast (S:Int->Prop) (F:Int->V4) (m:V4):Prop where
 high:∀u,S u->(F u).leq m
 a0:0<=m.a/\0<=m.b/\0<=m.c/\0<=m.d
 a:m.a=0\/∃u,S u/\m.a=(F u).a
 b:m.b=0\/∃u,S u/\m.b=(F u).b
 c:m.c=0\/∃u,S u/\m.c=(F u).c
 d:m.d=0\/∃u,S u/\m.d=(F u).d
def _root_.Go.Proofs.YtimlcnhcjndijaaGreatDoor.V4.leq.refl (u:V4):u.leq u:=⟨Df _,Df _,Df _,Df _⟩
def _root_.Go.Proofs.YtimlcnhcjndijaaGreatDoor.V4.leq.trans {u v x:V4} (h:u.leq v) (k:v.leq x):u.leq x:=⟨Wt h.1 k.1,Wt h.2.1 k.2.1,Wt h.2.2.1 k.2.2.1,Wt h.2.2.2 k.2.2.2⟩
def Ahq (u v:V4):(u.least v).leq u/\(u.least v).leq v:=by
 simp only[V4.least,V4.leq];omega
def Ahr (u v:V4):u.leq (u.dz v)/\v.leq (u.dz v):=by
 simp only[V4.dz,V4.leq];omega
def Asu (v:V4) (l:List St):(Ec v l).leq v/\∀x∈l,(Ec v l).leq x.f:=by
 induction l generalizing v with
 | nil=>exact⟨V4.leq.refl _,as9⟩
 | cons s r ih=>
  obtain⟨h1,a⟩:=ih (v.least s.f);refine⟨h1.trans (Ahq _ _).1,λx b=>?_⟩;rcases Eh.1 b with rfl|h
  .exact h1.trans (Ahq _ _).2
  .exact a x h
def Asv (v:V4) (l:List St):v.leq (Ep v l)/\∀x∈l,x.f.leq (Ep v l):=by
 induction l generalizing v with
 | nil=>exact⟨V4.leq.refl _,as9⟩
 | cons s r ih=>
  obtain⟨h1,a⟩:=ih (v.dz s.f);refine⟨(Ahr _ _).1.trans h1,λx b=>?_⟩;rcases Eh.1 b with rfl|h
  .exact (Ahr _ _).2.trans h1
  .exact a x h
def Asw (v:V4) (l:List St):((Ec v l).a=v.a\/∃x∈l,(Ec v l).a=x.f.a)/\((Ec v l).b=v.b\/∃x∈l,(Ec v l).b=x.f.b) /\
  ((Ec v l).c=v.c\/∃x∈l,(Ec v l).c=x.f.c)/\((Ec v l).d=v.d\/∃x∈l,(Ec v l).d=x.f.d):=by
 induction l generalizing v with
 | nil=>exact⟨.inl rfl,.inl rfl,.inl rfl,.inl rfl⟩
 | cons s r ih=>
  obtain⟨i,j,k,m⟩:=ih (v.least s.f);simp only[Ec];refine⟨?_,?_,?_,?_⟩
  .rcases i with h|⟨x,g,h⟩
   .rw [h];simp only[V4.least];by_cases e:v.a<=s.f.a
    .exact .inl ao9
    .exact .inr ⟨s,as9,ao9⟩
   .exact .inr ⟨x,by simp[g],h⟩
  .rcases j with h|⟨x,g,h⟩
   .rw [h];simp only[V4.least];by_cases e:v.b<=s.f.b
    .exact .inl ao9
    .exact .inr ⟨s,as9,ao9⟩
   .exact .inr ⟨x,by simp[g],h⟩
  .rcases k with h|⟨x,g,h⟩
   .rw [h];simp only[V4.least];by_cases e:v.c<=s.f.c
    .exact .inl ao9
    .exact .inr ⟨s,as9,ao9⟩
   .exact .inr ⟨x,by simp[g],h⟩
  .rcases m with h|⟨x,g,h⟩
   .rw [h];simp only[V4.least];by_cases e:v.d<=s.f.d
    .exact .inl ao9
    .exact .inr ⟨s,as9,ao9⟩
   .exact .inr ⟨x,by simp[g],h⟩
def Asx (v:V4) (l:List St):((Ep v l).a=v.a\/∃x∈l,(Ep v l).a=x.f.a)/\((Ep v l).b=v.b\/∃x∈l,(Ep v l).b=x.f.b) /\
  ((Ep v l).c=v.c\/∃x∈l,(Ep v l).c=x.f.c)/\((Ep v l).d=v.d\/∃x∈l,(Ep v l).d=x.f.d):=by
 induction l generalizing v with
 | nil=>exact⟨.inl rfl,.inl rfl,.inl rfl,.inl rfl⟩
 | cons s r ih=>
  obtain⟨i,j,k,m⟩:=ih (v.dz s.f);simp only[Ep];refine⟨?_,?_,?_,?_⟩
  .rcases i with h|⟨x,g,h⟩
   .rw [h];simp only[V4.dz];by_cases e:s.f.a<=v.a
    .exact .inl ao9
    .exact .inr ⟨s,as9,ao9⟩
   .exact .inr ⟨x,by simp[g],h⟩
  .rcases j with h|⟨x,g,h⟩
   .rw [h];simp only[V4.dz];by_cases e:s.f.b<=v.b
    .exact .inl ao9
    .exact .inr ⟨s,as9,ao9⟩
   .exact .inr ⟨x,by simp[g],h⟩
  .rcases k with h|⟨x,g,h⟩
   .rw [h];simp only[V4.dz];by_cases e:s.f.c<=v.c
    .exact .inl ao9
    .exact .inr ⟨s,as9,ao9⟩
   .exact .inr ⟨x,by simp[g],h⟩
  .rcases m with h|⟨x,g,h⟩
   .rw [h];simp only[V4.dz];by_cases e:s.f.d<=v.d
    .exact .inl ao9
    .exact .inr ⟨s,as9,ao9⟩
   .exact .inr ⟨x,by simp[g],h⟩
def Ahs {l:List St} (b:B9 l) {A B:Int} (hA:0<=A) (q:A<B):∃n,n<=(l.drop (pl l A)).length/\(∀j,j<n->(nth (l.drop (pl l A)) j).t<B)/\(n<(l.drop (pl l A)).length->B<=(nth (l.drop (pl l A)) n).t) /\
  (∀x∈(l.drop (pl l A)).take n,∃u,A<=u/\u<B/\x.f=val l u)/\(∀u,A<=u->u<B->∃x∈(l.drop (pl l A)).take n,val l u=x.f):=by
 obtain⟨k,d⟩:=Uo b hA;have v:=d.pz b.bj;rw[<-v]
 obtain⟨n,o,p,c⟩:∃n,n<=(l.drop k).length/\(∀j,j<n->(nth (l.drop k) j).t<B)/\(n<(l.drop k).length->B<=(nth (l.drop k) n).t):=by
  have y:∀n,n<=(l.drop k).length->(∃m,m<=(l.drop k).length/\(∀j,j<m->(nth (l.drop k) j).t<B)/\(m<(l.drop k).length->B<=(nth (l.drop k) m).t))\/(∀j,j<n->(nth (l.drop k) j).t<B):=by
   intro n
   induction n with
   | zero=>intro _;right;intro j a;omega
   | succ n ih=>
    intro hn;rcases ih ao9 with h|h
    .exact .inl h
    .by_cases r:(nth (l.drop k) n).t<B
     .right;intro j a;by_cases e:j=n
      .subst e;exact r
      .exact h j ao9
     .exact .inl ⟨n,ao9,h,λ_=>by omega⟩
  rcases y _ Ln with h|h
  .exact h
  .exact ⟨_,Nat.le_refl _,h,λh=>absurd h ao9⟩
 refine⟨n,o,p,c,λx hx=>?_,λu h1 h2=>?_⟩
 .obtain ⟨i,hi,rfl⟩:=Sr hx;rw[Dt,Iv]at hi;rw[Ya _ _ _ ao9,Nl];have g:=p i ao9;rw[Nl]at g;by_cases e:i=0
  .subst e;exact⟨A,Df _,q,(Mg b.bj d).symm⟩
  .refine ⟨(nth l (k+i)).t,?_,g,(Asr b ao9).symm⟩;have:=d.2.2 (k+i) ao9 ao9;omega
 .obtain ⟨j,a⟩:=Uo b (u:=u) ao9;have ad:k<=j:=by apply Is;intro r;have:=a.2.2 k ao9 d.1;have:=d.2.1;omega
  have ac:=a.1
  have s:j-k<n:=by
   apply Is;intro r;rw[Iv]at c o;have z:=c ao9;rw[Nl]at z;by_cases e:k+n=j
   .rw [e]at z;have:=a.2.1;omega
   .have:=b.bj (k+n) j ao9 a.1;have:=a.2.1;omega
  refine⟨nth ((l.drop k).take n) (j-k),Abn (by rw[Dt,Iv];omega),?_⟩;rw[Ya _ _ _ s,Nl,show k+(j-k)=j by omega];exact Mg b.bj a
def Asy  {l:List St} (i:B9 l) (fr f:Int):Ass whole (λu=>max fr 0<=u/\u<min f 1099511627776) (val l) (Ld whole l fr f):=by
 unfold Ld;by_cases h:min f 1099511627776<=max fr 0
 .rw [Ad h];exact⟨λu g=>by omega,⟨Df _,Df _,Df _,Df _⟩,.inl rfl,.inl rfl,.inl rfl,.inl rfl⟩
 .rw [Ab h];obtain⟨n,q,r,s,d,t⟩:=Ahs i (A:=max fr 0) (B:=min f 1099511627776) ao9 ao9;rw[Ag8 _ _ n q whole r s];obtain⟨j,k⟩:=Asu whole ((l.drop (pl l (max fr 0))).take n);obtain⟨m,o,mc,p⟩:=Asw whole ((l.drop (pl l (max fr 0))).take n);refine⟨λu g=>?_,j,?_,?_,?_,?_⟩
  .obtain ⟨x,a,e⟩:=t u g.1 g.2;rw[e];exact k x a
  .rcases m with h|⟨x,a,h⟩
   .exact .inl h
   .obtain ⟨u,b,c,e⟩:=d x a;exact .inr ⟨u,⟨b,c⟩,by rw[h,e]⟩
  .rcases o with h|⟨x,a,h⟩
   .exact .inl h
   .obtain ⟨u,b,c,e⟩:=d x a;exact .inr ⟨u,⟨b,c⟩,by rw[h,e]⟩
  .rcases mc with h|⟨x,a,h⟩
   .exact .inl h
   .obtain ⟨u,b,c,e⟩:=d x a;exact .inr ⟨u,⟨b,c⟩,by rw[h,e]⟩
  .rcases p with h|⟨x,a,h⟩
   .exact .inl h
   .obtain ⟨u,b,c,e⟩:=d x a;exact .inr ⟨u,⟨b,c⟩,by rw[h,e]⟩
def Aht {l:List St} (i:B9 l) {fr f:Int} (h0:0<=fr) (h1:fr<f):Ast (λu=>fr<=u/\u<f) (val l) (E5 l fr f):=by
 unfold E5;obtain⟨n,q,r,s,d,t⟩:=Ahs i h0 h1;rw[Aha _ _ n q V4.zero r s];obtain⟨j,k⟩:=Asv V4.zero ((l.drop (pl l fr)).take n);obtain⟨m,o,mc,p⟩:=Asx V4.zero ((l.drop (pl l fr)).take n);refine⟨λu g=>?_,j,?_,?_,?_,?_⟩
 .obtain ⟨x,a,e⟩:=t u g.1 g.2;rw[e];exact k x a
 .rcases m with h|⟨x,a,h⟩
  .exact .inl h
  .obtain ⟨u,b,c,e⟩:=d x a;exact .inr ⟨u,⟨b,c⟩,by rw[h,e]⟩
 .rcases o with h|⟨x,a,h⟩
  .exact .inl h
  .obtain ⟨u,b,c,e⟩:=d x a;exact .inr ⟨u,⟨b,c⟩,by rw[h,e]⟩
 .rcases mc with h|⟨x,a,h⟩
  .exact .inl h
  .obtain ⟨u,b,c,e⟩:=d x a;exact .inr ⟨u,⟨b,c⟩,by rw[h,e]⟩
 .rcases p with h|⟨x,a,h⟩
  .exact .inl h
  .obtain ⟨u,b,c,e⟩:=d x a;exact .inr ⟨u,⟨b,c⟩,by rw[h,e]⟩
def Nm (u v:V4):V4:=⟨u.a-v.a,u.b-v.b,u.c-v.c,u.d-v.d⟩
def A3 (u v:V4):V4:=⟨u.a+v.a,u.b+v.b,u.c+v.c,u.d+v.d⟩
def Ahu  {l:List St} (k:Inv whole l) {fr g:Int} (h0:0<=fr) (h1:fr<g) (n:g<=1099511627776) (v:V4) :
  v.leq (Ld whole l fr g)↔∀u,fr<=u->u<g->v.leq (val l u):=by
 have i:=Asy (whole:=whole) k.loose fr g;constructor
 .intro h u a b;exact h.trans (i.low u ⟨ao9,ao9⟩)
 .intro h;have m:∀u,fr<=u->u<g->(val l u).leq whole:=λu a b=>Le.1 (k.free u ao9 ao9).2;have f:=(h fr (Df _) h1).trans (m fr (Df _) h1);refine⟨?_,?_,?_,?_⟩
  .rcases i.a with e|⟨u,j,e⟩
   .rw [e];exact f.1
   .rw [e];exact(h u ao9 ao9).1
  .rcases i.b with e|⟨u,j,e⟩
   .rw [e];exact f.2.1
   .rw [e];exact(h u ao9 ao9).2.1
  .rcases i.c with e|⟨u,j,e⟩
   .rw [e];exact f.2.2.1
   .rw [e];exact(h u ao9 ao9).2.2.1
  .rcases i.d with e|⟨u,j,e⟩
   .rw [e];exact f.2.2.2
   .rw [e];exact(h u ao9 ao9).2.2.2
def Ahv  {l:List St} (j:Inv whole l) {fr i:Int} (h0:0<=fr) (h1:fr<i) (h2:i<=1099511627776) (v:V4) :
  (A3 (E5 l fr i) v).leq whole↔∀u,fr<=u->u<i->(A3 (val l u) v).leq whole:=by
 have g:=Aht j.loose h0 h1;have x:=λu (a:fr<=u) (b:u<i)=>E6.1 (j.free u ao9 ao9).1;constructor
 .intro h u a b;have:=g.high u ⟨a,b⟩;obtain⟨a1,a2,a3,z⟩:=this;obtain⟨k,m,n,o⟩:=h;simp only[A3]at k m n o
  refine⟨?_,?_,?_,?_⟩<;>simp only[A3]<;>omega
 .intro h;have t:=h fr (Df _) h1;have y:=x fr (Df _) h1;obtain⟨p,q,r,s⟩:=t;simp only[A3]at p q r s;refine⟨?_,?_,?_,?_⟩
  .rcases g.a with e|⟨u,f,e⟩
   .simp only[A3];omega
   .have:=(h u f.1 f.2).1;simp only[A3]at this ⊢;omega
  .rcases g.b with e|⟨u,f,e⟩
   .simp only[A3];omega
   .have:=(h u f.1 f.2).2.1;simp only[A3]at this ⊢;omega
  .rcases g.c with e|⟨u,f,e⟩
   .simp only[A3];omega
   .have:=(h u f.1 f.2).2.2.1;simp only[A3]at this ⊢;omega
  .rcases g.d with e|⟨u,f,e⟩
   .simp only[A3];omega
   .have:=(h u f.1 f.2).2.2.2;simp only[A3]at this ⊢;omega
def Ahw  {l:List St} (j:Inv whole l) {fr i:Int} (h0:0<=fr) (h1:fr<i) (p:i<=1099511627776):(E5 l fr i).right=true:=by
 have g:=Aht j.loose h0 h1;have h:=λu (a:fr<=u) (b:u<i)=>E6.1 (j.free u ao9 ao9).1;obtain⟨k,m,n,o⟩:=g.a0;rw[E6];refine⟨⟨k,?_⟩,⟨m,?_⟩,⟨n,?_⟩,⟨o,?_⟩⟩
 .rcases g.a with e|⟨u,f,e⟩
  .omega
  .have:=h u f.1 f.2;omega
 .rcases g.b with e|⟨u,f,e⟩
  .omega
  .have:=h u f.1 f.2;omega
 .rcases g.c with e|⟨u,f,e⟩
  .omega
  .have:=h u f.1 f.2;omega
 .rcases g.d with e|⟨u,f,e⟩
  .omega
  .have:=h u f.1 f.2;omega
def Qu (l:List St) (fr tt:Int) (v:V4) (r:Int) (l':List St):Prop:=
 (Bf fr tt v=false/\r=1/\l'=l)\/(Bf fr tt v=true/\¬(∀u,fr<=u->u<tt->v.leq (val l u))/\r=60/\l'=l) \/
  (Bf fr tt v=true/\(∀u,fr<=u->u<tt->v.leq (val l u))/\r=0/\∀u,0<=u->u<1099511627776->val l' u=if fr<=u/\u<tt then Nm (val l u) v else val l u)
def Qv (whole:V4) (l:List St) (fr tt:Int) (v:V4) (r:Int) (l':List St):Prop:=
 (Bf fr tt v=false/\r=1/\l'=l)\/(Bf fr tt v=true/\¬(∀u,fr<=u->u<tt->(A3 (val l u) v).leq whole)/\r=61/\l'=l) \/
  (Bf fr tt v=true/\(∀u,fr<=u->u<tt->(A3 (val l u) v).leq whole)/\r=0/\∀u,0<=u->u<1099511627776->val l' u=if fr<=u/\u<tt then A3 (val l u) v else val l u)
def Ahx  {l o:List St} {fr j:Int} {v:V4} {r:Int} (c:Inv whole l) (h:Ahd whole l fr j v r o):Inv whole o/\Qu l fr j v r o:=by
 rcases h with⟨h1,g,i⟩|⟨h1,g,i,q⟩|⟨h1,g,i,q⟩
 .rw [i];exact⟨c,.inl ⟨h1,g,rfl⟩⟩
 .obtain ⟨k,m,n,p⟩:=Mf h1;rw[q];exact⟨c,.inr (.inl ⟨h1,λy=>Aso.1 g ((Ahu c k m n v).2 y),i,rfl⟩)⟩
 .obtain ⟨k,m,n,p⟩:=Mf h1;have a:=(Ahu c k m n v).1 (Le.1 g);obtain⟨s,t,x⟩:=Ahp c.loose q k m n
  have d:∀u,0<=u->u<1099511627776->val o u=if fr<=u/\u<j then Nm (val l u) v else val l u:=by
   intro u e f;rw[x u e f];by_cases b:fr<=u/\u<j
   .rw [Ad b,Ad b,Asp (c.free u e f).1 p (a u b.1 b.2)];rfl
   .rw [Ab b,Ab b]
  refine⟨⟨c.right,s,t,λu e f=>?_⟩,.inr (.inr ⟨h1,a,i,d⟩)⟩;rw[d u e f];by_cases b:fr<=u/\u<j
  .rw [Ad b];have q1:=E6.1 (c.free u e f).1;have z:=Le.1 (c.free u e f).2;have q3:=a u b.1 b.2;have q4:=E6.1 p;obtain⟨a1,a2,a3,a4⟩:=z;obtain⟨d1,d2,d3,d4⟩:=q3;rw[E6,Le]
   refine⟨⟨⟨?_,?_⟩,⟨?_,?_⟩,⟨?_,?_⟩,⟨?_,?_⟩⟩,?_,?_,?_,?_⟩<;>simp only[Nm]<;>omega
  .rw [Ab b];exact c.free u e f
def Ahy  {l l':List St} {fr e:Int} {v:V4} {r:Int} (f:Inv whole l) (h:Ahf whole l fr e v r l'):Inv whole l'/\Qv whole l fr e v r l':=by
 rcases h with⟨h1,z,y⟩|⟨h1,z,y,h4⟩|⟨h1,z,x,y,h4⟩
 .rw [y];exact⟨f,.inl ⟨h1,z,rfl⟩⟩
 .obtain ⟨q,s,t,p⟩:=Mf h1;rw[h4];refine⟨f,.inr (.inl ⟨h1,λhh=>z ?_,y,rfl⟩)⟩;have hm:=(Ahv f q s t v).2 hh;have j:=Ahw f q s t;have q1:=E6.1 j;have q2:=E6.1 p;have q3:=E6.1 f.right;obtain⟨e1,e2,e3,e4⟩:=hm;simp only[A3]at e1 e2 e3 e4
  have hr:(⟨(E5 l fr e).a+v.a,(E5 l fr e).b+v.b,(E5 l fr e).c+v.c,(E5 l fr e).d+v.d⟩:V4).right=true:=by rw[E6];refine⟨⟨?_,?_⟩,⟨?_,?_⟩,⟨?_,?_⟩,⟨?_,?_⟩⟩<;>simp only<;>omega
  rw[Abr j p hr];exact⟨rfl,Le.2 ⟨e1,e2,e3,e4⟩⟩
 .obtain ⟨q,s,t,p⟩:=Mf h1;have j:=Ahw f q s t;have hr:(⟨(E5 l fr e).a+v.a,(E5 l fr e).b+v.b,(E5 l fr e).c+v.c,(E5 l fr e).d+v.d⟩:V4).right=true:=by apply Is;intro hc;have:=Asq j p hc;omega
  rw[Abr j p hr]at x;have i:=(Ahv f q s t v).1 (Le.1 x);obtain⟨c1,c2,c3⟩:=Ahp f.loose h4 q s t;have ac:=E6.1 f.right;have q4:=E6.1 p
  have n:∀u,0<=u->u<1099511627776->fr<=u->u<e->(A3 (val l u) v).right=true:=by
   intro u k m u2 u3;have q1:=E6.1 (f.free u k m).1;obtain⟨d1,d2,d3,d4⟩:=i u u2 u3;simp only[A3]at d1 d2 d3 d4;rw[E6]
   refine⟨⟨?_,?_⟩,⟨?_,?_⟩,⟨?_,?_⟩,⟨?_,?_⟩⟩<;>simp only[A3]<;>omega
  have o:∀u,0<=u->u<1099511627776->val l' u=if fr<=u/\u<e then A3 (val l u) v else val l u:=by
   intro u k m;rw[c3 u k m];by_cases g:fr<=u/\u<e
   .rw [Ad g,Ad g,Abr (f.free u k m).1 p (n u k m g.1 g.2)];rfl
   .rw [Ab g,Ab g]
  refine⟨⟨f.right,c1,c2,λu k m=>?_⟩,.inr (.inr ⟨h1,i,y,o⟩)⟩;rw[o u k m];by_cases g:fr<=u/\u<e
  .rw [Ad g];exact⟨n u k m g.1 g.2,Le.2 (i u g.1 g.2)⟩
  .rw [Ab g];exact f.free u k m
def Asz  (h:whole.right=true):Inv whole [⟨0,whole⟩]:=by
 refine⟨h,⟨as9,rfl,λi j b c=>by simp at c;omega,λi a=>?_⟩,λi a=>by simp at a,λu d e=>?_⟩
 .have:i=0:=by simpa using a
  subst this;simp[nth]
 .have:val [⟨0,whole⟩] u=whole:=by simp[val,Ey,d]
  rw[this];exact⟨h,Le.2 (V4.leq.refl _)⟩
structure Nd where
 pb:Nat
 sb:Nat
 cap:Nat
 whole:V4
 l:List St
def Nd.none:Nd:=⟨0,0,0,V4.zero,[]⟩
def nd (ps:List Nd) (i:Nat):Nd:=ps.getD i Nd.none
def Mh {a:List Nd} {i:Nat} (x:Nd) (b:i<a.length) (j:Nat):nd (a.set i x) j=if j=i then x else nd a j:=by
 unfold nd;by_cases h:j=i
 .subst h;rw[Ad rfl];simp[List.getD,b]
 .rw [Ab h];simp[List.getD,P7 h]
def Bc (ps:List Nd) (b:Nat):Prop:=∃i,i<ps.length/\(b=(nd ps i).pb\/b=(nd ps i).sb)
structure By (w:WD) (gb gs:Nat) (ao:Option Addr) (cap:Nat) (ps:List Nd):Prop where
 head:w.heap[gb]?=O (J #[V ao ps.length cap] 354 (0,0))
 addr:0<ps.length->ao=O ⟨gs,0,I⟩
 ptr:∀i,i<ps.length->w.cell? ⟨gs,i,I⟩=O (K (O ⟨(nd ps i).pb,0,I⟩))
 fp:∀i,i<ps.length->Ce w (nd ps i).pb (nd ps i).sb (nd ps i).cap (nd ps i).whole (nd ps i).l
 inv:∀i,i<ps.length->Inv (nd ps i).whole (nd ps i).l
 apart:∀i j,i<ps.length->j<ps.length->i≠j->(nd ps i).pb≠(nd ps j).pb/\(nd ps i).pb≠(nd ps j).sb/\(nd ps i).sb≠(nd ps j).sb
 own:∀i,i<ps.length->(nd ps i).pb≠gb/\(nd ps i).sb≠gb/\(nd ps i).pb≠gs/\(nd ps i).sb≠gs
 gg:ps.length<=16
def By.rm  {d a cap:Nat} {c:Option Addr} {b:List Nd} (h:By w d a c cap b) (h0:0<b.length):a<w.heap.size:=Vq w _ (h.ptr 0 h0)
def By.below  {d e cap:Nat} {c:Option Addr} {f:List Nd} (h:By w d e c cap f) (b:BW w.heap.size w w'):By w' d e c cap f:=
 ⟨Ae b h.head (Ac h.head),h.addr,λi a=>(Af b (Vq w _ (h.ptr i a))).trans (h.ptr i a),λi a=>(h.fp i a).below b (h.fp i a).lt.1 (h.fp i a).lt.2,h.inv,h.apart,h.own,h.gg⟩
def By.ki  {e f cap:Nat} {d:Option Addr} {c:List Nd} (h:By w e f d cap c) {b:Nat} (g:Bc c b):b<w.heap.size:=by
 obtain⟨i,a,rfl|rfl⟩:=g
 .exact (h.fp i a).lt.1
 .exact (h.fp i a).lt.2
def By.ml  {v s cap:Nat} {ao:Option Addr} {l:List Nd} (h:By w v s ao cap l) {i o p:Nat} {z:List St} (m:i<l.length)
  (hp:Ce w' (nd l i).pb o p (nd l i).whole z) (hl:Inv (nd l i).whole z) (r:o=(nd l i).sb\/w.heap.size<=o) (t:Mod (λb=>b=(nd l i).pb\/b=(nd l i).sb) w w') :
  By w' v s ao cap (l.set i ⟨(nd l i).pb,o,p,(nd l i).whole,z⟩):=by
 have x:=Ac h.head;have y:=h.rm ao9;have u:=h.own i m;refine⟨?_,?_,?_,?_,?_,?_,?_,?_⟩
 .rw [Dl];exact(t.block v x (by rintro(e|e)<;>omega)).trans h.head
 .rw [Dl];exact h.addr
 .intro j d;rw[Dl]at d;rw[Mh _ m];have:=(Bl (a:=⟨s,j,I⟩) (w:=w) (t.block s y (by rintro(e|e)<;>omega))).trans (h.ptr j d);split
  .rename_i e;subst e;exact this
  .exact this
 .intro j d;rw[Dl]at d;rw[Mh _ m];split
  .exact hp
  .rename_i e;have g:=h.fp j d;have f:=h.apart i j m d (λc=>e c.symm);have hb:=h.apart j i d m e;have h1:=t.block _ g.lt.1 (by rintro(c|c);exact f.1 c.symm;exact hb.2.1 c);have h2:=t.block _ g.lt.2 (by rintro(c|c);exact f.2.1 c.symm;exact f.2.2 c.symm);exact⟨h1.trans g.head,g.row.of_block h2,g.ne⟩
 .intro j d;rw[Dl]at d;rw[Mh _ m];split
  .exact hl
  .exact h.inv j d
 .intro j k d q n;rw[Dl]at d q;rw[Mh _ m,Mh _ m];by_cases e1:j=i
  .subst e1;rw[Ad rfl,Ab (P7 n)];have f:=h.apart j k d q n;refine⟨f.1,f.2.1,?_⟩;rcases r with e|e
   .simp only[e];exact f.2.2
   .have:=(h.fp k q).lt.2;simp only;omega
  .rw [Ab e1];by_cases e2:k=i
   .subst e2;rw[Ad rfl];have f:=h.apart j k d q n;refine⟨f.1,?_,?_⟩
    .rcases r with e|e
     .simp only[e];exact f.2.1
     .have:=(h.fp j d).lt.1;simp only;omega
    .rcases r with e|e
     .simp only[e];exact f.2.2
     .have:=(h.fp j d).lt.2;simp only;omega
   .rw [Ab e2];exact h.apart j k d q n
 .intro j d;rw[Dl]at d;rw[Mh _ m];split
  .refine ⟨u.1,?_,u.2.2.1,?_⟩
   .rcases r with e|e
    .simp only[e];exact u.2.1
    .simp only;omega
   .rcases r with e|e
    .simp only[e];exact u.2.2.2
    .simp only;omega
  .exact h.own j d
 .rw [Dl];exact h.gg
def zi (zs:List Int) (i:Nat):Int:=zs.getD i 0
structure Ao (w:WD) (ao:Option Addr) (n:Nat) (zs:List Int):Prop where
 len:zs.length=n
 max:n<=9223372036854775807
 cell:∀i,i<n->∃b off,ao=O ⟨b,off,I⟩/\b<w.heap.size/\w.cell? ⟨b,off+i,I⟩=O (Z G (zi zs i))
def vf (ao:Option Addr) (S:Nat->Prop):Prop:=∀b off,ao=O ⟨b,off,I⟩->¬S b
def Ao.below  {d:Option Addr}   (h:Ao w d n zs) {B:Nat} (f:BW B w w') (k:w.heap.size<=B):Ao w' d n zs:=
 ⟨h.len,h.max,λi j=>by
  obtain⟨b,c,e,a,g⟩:=h.cell i j
  exact⟨b,c,e,B4 a f.size,(Af f ao9).trans g⟩⟩
def Ao.mod  {f:Option Addr}   {S:Nat->Prop} (h:Ao w f n zs) (g:Mod S w w') (l:0<n->vf f S):Ao w' f n zs:=
 ⟨h.len,h.max,λi k=>by
  obtain⟨b,c,e,d,j⟩:=h.cell i k
  exact⟨b,c,e,B4 d g.size,(Bl (a:=⟨b,c+i,I⟩) (w:=w) (g.block b d (l ao9 b c e))).trans j⟩⟩
structure D5 (n:Nat) (zs:List Int):Prop where
 pos:0<zs.length
 low:∀i,i<zs.length->0<=zi zs i
 high:∀i,i<zs.length->zi zs i<n
 bj:∀i,i+1<zs.length->zi zs i<zi zs (i+1)
def As0 (n:Nat) (zs:List Int) (w:WD) (e:Ending) (w':WD):Prop:=
 ∃b:Bool,e=Q (Y b)/\(b=true↔D5 n zs)/\BW w.heap.size w w'
def As1 (gb gs cap:Nat) (po:Option Addr) (ps:List Nd) (ao:Option Addr) (m c:Nat) (zs:List Int) (w:WD) (hp:By w gb gs po cap ps) (v:Ao w ao m zs) :
  Calls prog 284 #[K (O ⟨gb,0,I⟩),V ao m c] w (As0 ps.length zs w):=by
 obtain⟨n,hn⟩:=Ex (ps.length);have hh:=hp.head;have ac:=hp.gg;rw[<-hn]at hh ac;have c0:=Aa hh 0;simp at c0;have al:=Ac hh;rw[<-hn];clear hp hh hn;have f:=v.len;have am:=v.max;replace⟨v,f⟩:=H2 v f;by_cases h0:m=0
 .have d0:((m:Int) == 0)=true:=by rw[h0];rfl
  replace h0:=Hh h0;go_enter func284,ntmps284;go_wp2;go_ret;exact⟨false,rfl,⟨λh=>by simp at h,λh=>by have:=h.pos;have:=f.out;have:=h0.out;omega⟩,Below.refl _ _⟩
 have d0:((m:Int) == 0)=false:=Bh.2 ao9;have aD:0<m:=ao9
 replace h0:=Hh h0;go_enter func284,ntmps284;go_wp2;go_loopw [5,6,16] (λ_ _ i wr=>∃k:Nat,i=Z G k/\k<=m/\Hid (∀i,i<k->0<=zi zs i/\zi zs i<n/\(∀j,i=j+1->zi zs j<zi zs i))/\Hid (BW w.heap.size w wr)) (λ_ _ i _=>m-(intOf i).toNat)
 case atStart=>exact⟨0,rfl,Ar _,(λi h=>by omega),Below.refl _ _⟩
 case round=>
  obtain⟨k,rfl,hk,l,g⟩:=hrel;have g0:=(Af (o:=0) g.out al).trans c0;by_cases hc:k<m
  .have af:(k:Int)<m:=ao9;have aB:(0:Int)<=(k:Int):=ao9;obtain⟨b,aF,rfl,hb,a0⟩:=v.cell k hc;have b0:=(Af g.out hb).trans a0;clear a0;obtain⟨x,q⟩:=Ex (zi zs k);rw[<-q]at b0;replace q:=Hh q
   have s:Hid (¬(0<=x/\x<n/\∀j,k=j+1->zi zs j<x)->¬D5 n zs):=λh hg=>by
    have u:k<zs.length:=(by rw[f.out];exact hc);refine h ⟨by rw[q.out];exact hg.low k u,by rw[q.out];exact hg.high k u,λj e=>?_⟩;subst e;rw[q.out];exact hg.bj j u
   by_cases p:x<0
   .have d1:decide (x<0)=true:=(by simpa using p);have a:=s ao9;replace⟨p,a⟩:=H2 p a;go_wp2;go_ret;exact⟨false,rfl,⟨λh=>by simp at h,λh=>absurd h a.out⟩,g.out⟩
   have d1:decide (x<0)=false:=(by simpa using p);by_cases r:(n:Int)<=x
   .have d2:decide ((n:Int)<=x)=true:=(by simpa using r);have a:=s ao9;replace⟨p,r,a⟩:=H3 p r a;go_wp2;go_ret;exact⟨false,rfl,⟨λh=>by simp at h,λh=>absurd h a.out⟩,g.out⟩
   have d2:decide ((n:Int)<=x)=false:=by simpa using r
   cases k with
   | zero=>
    rw[O0]at b0
    have d:∀i,i<0+1->0<=zi zs i/\zi zs i<n/\(∀j,i=j+1->zi zs j<zi zs i):=by
     intro i t
     have:i=0:=ao9
     subst this;exact⟨by rw[<-q.out];omega,by rw[<-q.out];omega,λj e=>by omega⟩
    replace⟨p,r,d⟩:=H3 p r d;go_wp2;go_roundw
    case rel=>exact⟨0+1,by go_num,ao9,d.out,g.out⟩
    case measure=>simp[intOf];omega
   | succ j=>
    obtain⟨b',an,e',ad,a1⟩:=v.cell j ao9;cases e';have b1:=(Af g.out ad).trans a1;clear a1;obtain⟨y,hy⟩:=Ex (zi zs j);rw[<-hy]at b1;replace hy:=Hh hy;have ej:IntKind.i64.wrap (((j+1:Nat):Int)-1)=(j:Int):=(by rw[E0 _ ao9];omega);have ap:IntKind.i64.wrap ((j:Int)+1-1)=(j:Int):=(by rw[E0 _ ao9];omega);have aA:(j:Int)<m:=ao9;have av:(0:Int)<=(j:Int):=ao9;have aE:(0:Int)<(j:Int)+1:=ao9;by_cases z:x<=y
    .have d3:decide (x<=y)=true:=(by simpa using z);have a:=s (λh=>by have:=h.2.2 j rfl;rw[<-hy.out]at this;omega);replace⟨p,r,z,a⟩:=H4 p r z a;go_wp2;go_ret;exact⟨false,rfl,⟨λh=>by simp at h,λh=>absurd h a.out⟩,g.out⟩
    .have d3:decide (x<=y)=false:=by simpa using z
     have d:∀i,i<j+1+1->0<=zi zs i/\zi zs i<n/\(∀j,i=j+1->zi zs j<zi zs i):=by
      intro i t;by_cases e:i=j+1
      .subst e;refine⟨by rw[<-q.out];omega,by rw[<-q.out];omega,λj2 e=>?_⟩
       have:j2=j:=ao9
       subst this;rw[<-q.out,<-hy.out];omega
      .exact l.out i ao9
     replace⟨p,r,z,d⟩:=H4 p r z d;go_wp2;go_roundw
     case rel=>exact⟨j+1+1,by go_num,ao9,d.out,g.out⟩
     case measure=>simp[intOf];omega
  .have af:¬(k:Int)<m:=ao9;have aC:k=m:=ao9;go_wp2;go_ret;refine⟨true,rfl,⟨λ_=>⟨by rw[f.out];omega,λi t=>?_,λi t=>?_,λi t=>?_⟩,λ_=>rfl⟩,g.out⟩
   .rw [f.out]at t;exact(l i ao9).1
   .rw [f.out]at t;exact(l i ao9).2.1
   .rw [f.out]at t;exact(l (i+1) ao9).2.2 i rfl
