/- Parts PlGive, PlSem, PlSemb, PlSemc, PlPool. Plain theorems: no condition. -/
import Derived.Test.YtimlcnhcjndijaaGreatDoorQ24
import Derived.Deep.DeepCutAuto
set_option linter.all false
set_option maxRecDepth 100000
set_option maxHeartbeats 1600000
namespace Go.Proofs.YtimlcnhcjndijaaGreatDoor.Pl
open Go.RowKit
def Ad5 (whole:V4) (l:List St) (fr tt:Int) (v:V4) (r:Int) (l':List St):Prop:=
 (Bj fr tt v=false/\r=1/\l'=l)\/(Bj fr tt v=true/\¬ (((E8 l fr tt).add v).2=0/\((E8 l fr tt).add v).1.fits whole=true)/\r=61/\l'=l) \/
  (Bj fr tt v=true/\((E8 l fr tt).add v).2=0/\((E8 l fr tt).add v).1.fits whole=true/\r=0/\Qe l fr tt (fun f=>(f.add v).1) l')
def R5 {W w1:World} (a:Below W.heap.size W w1):(∀ b o,b<W.heap.size->w1.cell? ⟨b,o,none⟩=W.cell? ⟨b,o,none⟩)/\(∀ b o,b<W.heap.size->w1.frozen? ⟨b,o,none⟩=W.frozen? ⟨b,o,none⟩):=
 ⟨fun b o h=>a.cell (p:=⟨b,o,none⟩) h,fun b o h=>a.frozen (p:=⟨b,o,none⟩) h⟩
def Ad6 (B:Nat) (w:World) (n:Nat):Below B w (w.drewN n):=⟨rfl,rfl,rfl,Nat.le_refl _,fun _ _=>rfl⟩
def V3 (w2:World) (r:V4×Int) (s9 s10:Value) (wx:World):Prop:=
 ∃ g:Nat,s9=.pointer (some ⟨g,0,none⟩)/\s10=.int .i64 r.2/\w2.heap.size<=g/\wx.heap[g]?=some (.cells r.1.cells 30 (0,0))/\Below w2.heap.size w2 wx
def World.oz (w:World) (b:Nat) (v:V4):World:=
 (((w.setCell ⟨b,0,none⟩ (.int .i64 v.a)).setCell ⟨b,1,none⟩ (.int .i64 v.b)).setCell ⟨b,2,none⟩ (.int .i64 v.c)).setCell ⟨b,3,none⟩ (.int .i64 v.d)
def Ad7 {w:World} {b:Nat} {u:V4} (h:w.heap[b]?=some (.cells u.cells 30 (0,0))) (v:V4):(World.oz w b v).heap[b]?=some (.cells v.cells 30 (0,0)):=by
 unfold World.oz;rw [Al (Al (Al (Al h _ _) _ _) _ _) _ _];simp
def Ad8 {B:Nat} {w w':World} (h:Below B w w') {b:Nat} (a:B<=b) (v:V4):Below B w (World.oz w' b v):=
 (((h.setCell a _).setCell a _).setCell a _).setCell a _
def Aox {c d e:World} {r:V4×Int} (a:Below c.drew.heap.size c.drew d) (b:Below d.heap.size d e) :
  V3 c r (.pointer (some ⟨e.heap.size,0,none⟩)) (.int .i64 r.2) (e.alloc (.cells r.1.cells 30)):=by
 have f:=(Gx a).size;have g:=b.size;exact ⟨_,rfl,rfl,by omega,Af _ _,((Gx a).trans (b.mono f)).alloc (by show c.heap.size<=_;omega) _⟩
def Aoy {e b f:World} {r:V4×Int} (c:Below e.drew.heap.size e.drew b) (a:Below (b.alloc (.cells V4.zero.cells 30)).heap.size (b.alloc (.cells V4.zero.cells 30)) f) :
  V3 e r (.pointer (some ⟨b.heap.size,0,none⟩)) (.int .i64 r.2) (World.oz f b.heap.size r.1):=by
 have d:=(Gx c).size;have g:=a.size;simp at g;refine ⟨_,rfl,rfl,d,Ad7 (Ae a (Af _ _) (by simp)) _,Ad8 ?_ d _⟩;exact ((Gx c).alloc d _).trans (a.mono (by simp;exact Nat.le_succ_of_le d))
def Aoz {b d f:World} {r:V4×Int} (e:Below (b.alloc (.cells V4.zero.cells 30)).drew.heap.size (b.alloc (.cells V4.zero.cells 30)).drew d) (c:Below d.heap.size d f) :
  V3 b r (.pointer (some ⟨b.heap.size,0,none⟩)) (.int .i64 r.2) (World.oz f b.heap.size r.1):=by
 have a:=Gx e;have g:=a.size;simp at g;refine ⟨_,rfl,rfl,Nat.le_refl _,Ad7 (Ae c (Ae a (Af _ _) (by simp)) (by omega)) _,Ad8 ?_ Ln _⟩;exact (Bn.trans (a.mono (by simp))).trans (c.mono (by omega))
def Ad9 (pb u cap:Nat) (whole:V4) (l:List St) (fr x:Int) (v:V4) (w:World) (hp:Cg w pb u cap whole l) (hl:Cb l) :
  Calls Tryz.prog 243 #[.pointer (some ⟨pb,0,none⟩),.int .i64 fr,.int .i64 x,v.val] w (Zb pb u whole (Ad5 whole l fr x v) w):=by
 obtain ⟨am,an⟩:=hp.lt;replace ⟨hp,hl⟩:=H2 hp hl;go_enter Tryz.func243,Tryz.ntmps243;go_wp2_with fail;refine (Ad2 fr x v _).mono ?_;rintro e w2 ⟨rfl,z⟩;have i:=Bn.trans (z.mono (by simp));have g2:=Ae z (Af _ _) (by simp);have b:=hp.out.below i am an;have s2:=i.size;have aD:=Ab g2;replace ⟨z,i,b⟩:=H3 z i b;by_cases hs:Bj fr x v=true
 .rw [hs];obtain ⟨b1,b2,b3,b4⟩:=Mb hs;have x0:=Aa g2 0;have x1:=Aa g2 1;have x2:=Aa g2 2;have x3:=Aa g2 3;simp at x0 x1 x2 x3;replace ⟨g2,hs,b4⟩:=H3 g2 hs b4;have aE:Hid (Cg w2.drew pb u cap whole l):=b.out.drew;have aF:Hid (∀ o,Cg (w2.alloc o).drew pb u cap whole l):=fun o=>(b.out.below ((Below.refl _ _).alloc Ln o) b.out.lt.1 b.out.lt.2).drew;obtain ⟨r,hr⟩:=Ex ((E8 l fr x).add v)
  have p:∀ w,Calls Tryz.prog 281 #[(E8 l fr x).val,v.val] w fun e w'=>e=.returned (.tuple #[r.1.val,.int .i64 r.2])/\Below w.heap.size w w':=by rw [hr];exact Adk _ _
  replace ⟨p,hr⟩:=H2 p hr;have aO:w.heap.size<w2.heap.size+1:=by omega
  go_upto_region 3 with fail;go_cut [9,10] (fun s9 aG wx=>V3 w2 r s9 aG wx)
  case first=>
   go_region_law
    (first
      | (go_simp;go_at_call 282
         (first
           | refine (Ad1 pb u cap whole l fr x _ aE.out hl.out b1 (by omega)).mono ?_
           | refine (Ad1 pb u cap whole l fr x _ (aF.out _) hl.out b1 (by omega)).mono ?_)
         rintro e w3 ⟨rfl,c⟩;have s3:=c.size;obtain ⟨aH,aI⟩:=R5 c
         (try simp at s3)
         (try simp at aH)
         (try simp at aI)
         have aP:w.heap.size<w3.heap.size:=by omega
         (try have aQ:w2.heap.size<w3.heap.size:=by omega)
         replace c:=Hh c)
      | (go_simp;go_at_call 281;refine (p.out _).mono ?_;rintro e w4 ⟨rfl,d⟩;have s4:=d.size;obtain ⟨aJ,aK⟩:=R5 d
         (try simp at s4)
         (try simp at aJ)
         (try simp at aK)
         (try have aR:w3.heap.size<w4.heap.size:=by omega)
         (try have aS:w2.heap.size<w4.heap.size:=by omega)
         replace d:=Hh d))
   all_goals
    go_wp2_with fail;go_meet
    first
     | exact Aox c.out d.out
     | exact Aoy c.out d.out
     | exact Aoz c.out d.out
  case rest=>
   obtain ⟨g,rfl,rfl,hg,j,q⟩:=hcut;have m:=i.out.trans (q.mono s2);have a:=hp.out.below m am an;have gv:=Ae q g2.out aD;have sx:=m.size;have e0:=Aa j 0;have e1:=Aa j 1;have e2:=Aa j 2;have e3:=Aa j 3;have q0:=Aa a.head 0;have q1:=Aa a.head 1;have q2:=Aa a.head 2;have q3:=Aa a.head 3;simp at e0 e1 e2 e3 q0 q1 q2 q3;clear x0 x1 x2 x3;replace ⟨j,q,m,a,gv⟩:=H5 j q m a gv;by_cases y:r.2=0
   .have aL:(r.2 == 0)=true:=(by simpa using y);have aM:(r.2 != 0)=false:=(by simpa using y);replace y:=Hh y;go_wp2_with fail;go_region_law
     (first
       | (go_simp;go_at_call 65;refine (U1 r.1 whole _).mono ?_;rintro e w5 ⟨rfl,ao⟩
          replace ao:=Hh ao))
    all_goals
     have t:=Gx ao.out;have n:=m.out.trans (t.mono (by simpa using sx));have ac:=hp.out.below n am an;have ap:=Ae t gv.out (by have:=q.out.size;simp;omega);have s5:=n.size;replace ⟨ac,n,ap⟩:=H3 ac n ap;clear t;by_cases hf:r.1.fits whole=true
     .simp only [hf];replace hf:=Hh hf;go_wp2_with fail;refine (Adx pb u cap w.heap.size v whole l fr x 283 (fun f=>(f.add v).1) _ ac.out hl.out b1 b2 b3 ap.out (by omega) (by omega) Aou (fun s w1 h=>Aow s v _ w1 h)).mono ?_;rintro e w6 ⟨rfl,aN,aC,l',hc,av,aA,aB⟩;replace ⟨hc,av,aA,aB⟩:=H4 hc av aA aB;go_wp2;go_ret;refine ⟨0,aN,aC,l',rfl,.inr (.inr ⟨hs.out,by rw [<- hr.out];exact y.out,by rw [<- hr.out];exact hf.out,rfl,hc.out⟩),av.out,?_,(Mod.af n.out).trans (aB.out.mono fun k _ h=>.inl h)⟩;rcases aA.out with h | h
      .exact .inl h
      .exact .inr (A6 s5 h)
     .have ad:r.1.fits whole=false:=(by simpa using hf);simp only [ad];replace ad:=Hh ad;clear hf;go_wp2;go_ret;exact ⟨61,u,cap,l,rfl,.inr (.inl ⟨hs.out,(fun h=>by have:=ad.out;rw [hr.out,h.2] at this;cases this),rfl,rfl⟩),ac.out,.inl rfl,Mod.af n.out⟩
   .have aL:(r.2 == 0)=false:=(by simpa using y);have aM:(r.2 != 0)=true:=(by simpa using y);replace y:=Hh y;go_wp2_with fail;go_quiet (fail);go_wp2;go_ret;exact ⟨61,u,cap,l,rfl,.inr (.inl ⟨hs.out,(fun h=>y.out (by rw [hr.out];exact h.1)),rfl,rfl⟩),a.out.below (Ad6 _ _ _) a.out.lt.1 a.out.lt.2,.inl rfl,Mod.af (m.out.trans (Ad6 _ _ _))⟩
 .have al:Bj fr x v=false:=by simpa using hs
  rw [al];replace al:=Hh al;clear hs;go_wp2;go_ret;exact ⟨1,u,cap,l,rfl,.inl ⟨al.out,rfl,rfl⟩,b.out,.inl rfl,Mod.af i.out⟩
def Ey (d:V4):List St->Int->V4
 | [],_=>d
 | s :: r,u=>if s.t<=u then Ey s.f r u else d
def val (l:List St) (u:Int):V4:=Ey V4.zero l u
def O1:List St->Prop
 | []=>True
 | s :: r=>(∀ x∈r,s.t<x.t)/\O1 r
def R6 {l:List St} {x:St} (h:x∈l):∃ i,i<l.length/\nth l i=x:=by
 obtain ⟨i,a,rfl⟩:=Q5.1 h;exact ⟨i,a,by simp [nth,a]⟩
def Zc {l:List St} {i:Nat} (h:i<l.length):nth l i∈l:=by
 simp [nth,h]
def Zd (l:List St) (h:Ma l):O1 l:=by
 induction l with
 | nil=>trivial
 | cons s r ih=>
  refine ⟨fun x a=>?_,ih (Za h)⟩;obtain ⟨i,b,rfl⟩:=R6 a;have:=h 0 (i+1) (by omega) (by simpa using b)
  rwa [Iy,Em] at this
def Ao2 (l:List St) (h:O1 l):Ma l:=by
 induction l with
 | nil=>intro i j _ a;simp at a
 | cons s r ih=>
  intro i j b a
  cases j with
  | zero=>omega
  | succ j=>
   cases i with
   | zero=>rw [Iy,Em];exact h.1 _ (Zc (by simpa using a))
   | succ i=>rw [Em,Em];exact ih h.2 i j (by omega) (by simpa using a)
def N6 {d:V4} {l:List St} {u:Int} (h:∀ x∈l,u<x.t):Ey d l u=d:=by
 cases l with
 | nil=>rfl
 | cons s r=>simp only [Ey];rw [Ac (by have:=h s (by simp);omega)]
def Ao3 {d:V4} {l:List St} {u:Int} {k:Nat} (c:Ma l) (h:Kh l u k):Ey d l u=(nth l k).f:=by
 induction l generalizing d k with
 | nil=>exact absurd h.1 (by simp)
 | cons s r ih=>
  obtain ⟨h1,a,e⟩:=h;simp only [Ey]
  cases k with
  | zero=>
   rw [Iy] at a ⊢;rw [Ad a,N6];intro x g;obtain ⟨i,m,rfl⟩:=R6 g;have:=e (i+1) (by omega) (by simpa using m)
   rwa [Em] at this
  | succ k=>
   have h0:=c 0 (k+1) (by omega) h1;rw [Em] at a h0 ⊢;rw [Iy] at h0;rw [Ad (by omega)];exact ih (Za c) ⟨by simpa using h1,a,fun j n b=>by have:=e (j+1) (by omega) (by simpa using b);rwa [Em] at this⟩
def Mc {l:List St} {u:Int} {k:Nat} (a:Ma l) (h:Kh l u k):val l u=(nth l k).f:=Ao3 a h
def Tp {l:List St} (b:Cb l) {u:Int} (d:0<=u):∃ k,Kh l u k:=by
 have c:∀ n,n<l.length->(∃ k,Kh l u k)\/(nth l n).t<=u:=by
  intro n
  induction n with
  | zero=>intro _;right;rw [b.zero];exact d
  | succ n ih=>
   intro i;rcases ih (by omega) with h | h
   .exact .inl h
   .by_cases f:(nth l (n+1)).t<=u
    .exact .inr f
    .refine .inl ⟨n,by omega,h,fun j g a=>?_⟩;by_cases e:j=n+1
     .subst e;omega
     .have:=b.bh (n+1) j (by omega) a;omega
 have m:=b.pos;rcases c (l.length-1) (by omega) with h | h
 .exact h
 .exact ⟨l.length-1,by omega,h,fun j g a=>by omega⟩
def Aec {l q:List St} {t:Int} {n:Nat} (g:Cb l) (h:Qd l t n q) (y:t<1099511627776) {u:Int} (z:0<=u):val q u=val l u:=by
 obtain ⟨a,_,_,_,_,_⟩:=h.facts g y;obtain ⟨k,hk,h⟩:=h;rcases h with ⟨_,rfl,_⟩ | ⟨h1,rfl,rfl⟩
 .rfl
 .obtain ⟨j,r⟩:=Tp g z;rw [Mc g.bh r];obtain ⟨s,k2,k3⟩:=hk;obtain ⟨j1,m,o⟩:=r;have b:=Ads l k t s;have v:=Y6 l k t s;by_cases ac:j<k
  .rw [Mc a.bh (k:=j) ⟨by omega,by rw [b j (by omega),Ad (by omega)];exact m,fun i x c=>?_⟩,b j (by omega),Ad (by omega)];have h3:=o (j+1) (by omega) (by omega);have h4:(nth (Ki l k t) (j+1)).t=(nth l (j+1)).t:=(by rw [b (j+1) (by omega),Ad (by omega)]);by_cases e:i=j+1
   .subst e;omega
   .have:=a.bh (j+1) i (by omega) c;omega
  .by_cases p:t<=u
   .have e:(nth (Ki l k t) (j+1)).f=(nth l j).f/\(nth (Ki l k t) (j+1)).t<=u:=by
     rw [b (j+1) (by omega),Ac (by omega)];by_cases e:j=k
     .subst e;rw [Ad rfl];exact ⟨rfl,p⟩
     .rw [Ac (by omega),Nat.add_sub_cancel];exact ⟨rfl,m⟩
    rw [Mc a.bh (k:=j+1) ⟨by omega,e.2,fun i x c=>?_⟩,e.1];rw [b i (by omega),Ac (by omega),Ac (by omega)];exact o (i-1) (by omega) (by omega)
   .have d:j=k:=(by apply Il;intro hc;have:=k3 j (by omega) j1;omega);subst d;rw [Mc a.bh (k:=j) ⟨by omega,by rw [b j (by omega),Ad (by omega)];exact m,fun i x c=>?_⟩,b j (by omega),Ad (by omega)];rw [b i (by omega),Ac (by omega)];split
    .show u<t;omega
    .exact o (i-1) (by omega) (by omega)
def Ao4 {l:List St} (q:Cb l) (g:V4->V4) {i e:Nat} (h:i<=e) (r:e<=l.length) {u:Int} {k:Nat} (f:Kh l u k) :
  val (Gi g i e l) u=if i<=k/\k<e then g (val l u) else val l u:=by
 have s:=R4 g i e l h r;have c:=R3 g i e l h r
 have m:∀ j,j<l.length->(nth (Gi g i e l) j).t=(nth l j).t:=fun j n=>by rw [s j n];split<;>rfl
 have v:Ma (Gi g i e l):=fun a b o p=>by rw [c] at p;rw [m a (by omega),m b p];exact q.bh a b o p
 rw [Mc v (k:=k) ⟨by rw [c];exact f.1,by rw [m k f.1];exact f.2.1,fun j n d=>by rw [c] at d;rw [m j d];exact f.2.2 j n d⟩,s k f.1,Mc q.bh f]
 split<;>rfl
def Ao5 {l:List St} (f:Cb l) (g:V4->V4) {i e:Nat} (h:i<=e) (o:e<=l.length):Cb (Gi g i e l):=by
 have p:=R4 g i e l h o;have c:=R3 g i e l h o
 have k:∀ j,j<l.length->(nth (Gi g i e l) j).t=(nth l j).t:=fun j d=>by rw [p j d];split<;>rfl
 have q:=f.pos;exact ⟨by omega,by rw [k 0 q];exact f.zero,fun a b m n=>by rw [c] at n;rw [k a (by omega),k b n];exact f.bh a b m n,fun j d=>by rw [c] at d;rw [k j d];exact f.last j d⟩
def Ze (p:V4) (l:List St):∀ x∈Fo p l,x∈l:=by
 induction l generalizing p with
 | nil=>simp [Fo]
 | cons s r ih=>
  intro x a;simp only [Fo] at a;split at a
  .exact D1 _ (ih _ x a)
  .rcases Gu.1 a with rfl | h
   .simp
   .exact D1 _ (ih _ x h)
def Ao6 (p:V4) (l:List St) (h:O1 l):O1 (Fo p l):=by
 induction l generalizing p with
 | nil=>exact h
 | cons s r ih=>
  simp only [Fo];split
  .exact ih _ h.2
  .exact ⟨fun x a=>h.1 x (Ze _ _ x a),ih _ h.2⟩
def Ao7 (p:V4) (l:List St) (h:O1 l) (u:Int):Ey p (Fo p l) u=Ey p l u:=by
 induction l generalizing p with
 | nil=>rfl
 | cons s r ih=>
  simp only [Fo,Ey];by_cases a:s.f=p
  .rw [Ad a];have e:=ih s.f h.2;rw [a] at e ⊢;rw [e];by_cases b:s.t<=u
   .rw [Ad b]
   .rw [Ac b]
    exact N6 fun x c=>by have:=h.1 x c;omega
  .rw [Ac a];simp only [Ey];rw [ih s.f h.2]
def tr (p:V4):List St->Prop
 | []=>True
 | s :: r=>s.f≠p/\tr s.f r
def Ao8 (p:V4) (l:List St):tr p (Fo p l):=by
 induction l generalizing p with
 | nil=>trivial
 | cons s r ih=>
  simp only [Fo];split
  .next h=>have:=ih s.f;rw [h] at this ⊢;exact this
  .next h=>exact ⟨h,ih s.f⟩
def Ao9 {p:V4} {l:List St} (h:tr p l):∀ i,i+1<l.length->(nth l i).f≠(nth l (i+1)).f:=by
 induction l generalizing p with
 | nil=>intro i a;simp at a
 | cons s r ih=>
  intro i a
  cases i with
  | zero=>
   cases r with
   | nil=>simp at a
   | cons s2 r2=>rw [Iy,Em,Iy];exact Ne.symm h.2.1
  | succ i=>rw [Em,Em];exact ih h.2 i (by simpa using a)
def Aed (s:St) (r:List St) (h:∀ i,i+1<(s :: r).length->(nth (s :: r) i).f≠(nth (s :: r) (i+1)).f):tr s.f r:=by
 induction r generalizing s with
 | nil=>trivial
 | cons s2 r ih=>
  refine ⟨?_,ih s2 fun i a=>?_⟩
  .have:=h 0 (by simp);rw [Iy,Em,Iy] at this;exact Ne.symm this
  .have:=h (i+1) (by simpa using a);rwa [Em,Em] at this
def Apa {l:List St} (c:Cb l):Cb (B7 l)/\(∀ u,val (B7 l) u=val l u)/\(∀ x∈B7 l,x∈l)/\(∀ i,i+1<(B7 l).length->(nth (B7 l) i).f≠(nth (B7 l) (i+1)).f):=by
 cases l with
 | nil=>exact absurd c.pos (by simp)
 | cons s r=>
  have d:=Zd _ c.bh
  have b:∀ x∈B7 (s :: r),x∈s :: r:=by
   intro x g;rcases Gu.1 g with rfl | h
   .simp
   .exact D1 _ (Ze _ _ x h)
  refine ⟨⟨by simp [B7],c.zero,Ao2 _ ⟨fun x g=>d.1 x (Ze _ _ x g),Ao6 _ _ d.2⟩,fun i k=>?_⟩,fun u=>?_,b,?_⟩
  .obtain ⟨j,m,e⟩:=R6 (b _ (Zc k));rw [<- e];exact c.last j m
  .simp only [B7,val,Ey];rw [Ao7 _ _ d.2]
  .exact Ao9 (p:=⟨s.f.a+1,0,0,0⟩) ⟨fun h=>by have:=Ca V4.a h;simp at this;omega,Ao8 s.f r⟩
def Apb {a:V4} {r d:List St} (t0:Int) (h:O1 r) (i:O1 d) (o:tr a r) (g:tr a d) (m:∀ x∈r,t0<=x.t/\x.t<1099511627776) (c:∀ x∈d,t0<=x.t/\x.t<1099511627776)
  (j:∀ u,t0<=u->u<1099511627776->Ey a r u=Ey a d u):r=d:=by
 induction r generalizing a d t0 with
 | nil=>
  cases d with
  | nil=>rfl
  | cons s' q'=>
   exfalso;have:=j s'.t (c s' (by simp)).1 (c s' (by simp)).2;simp only [Ey] at this;rw [Ad (Db _),N6 i.1] at this;exact g.1 this.symm
 | cons s q ih=>
  cases d with
  | nil=>
   exfalso;have:=j s.t (m s (by simp)).1 (m s (by simp)).2;simp only [Ey] at this;rw [Ad (Db _),N6 h.1] at this;exact o.1 this
  | cons s' q'=>
   have b:=m s (by simp);have v:=c s' (by simp);have e:=j s.t b.1 b.2;have n:=j s'.t v.1 v.2;simp only [Ey] at e n;rw [Ad (Db _),N6 h.1] at e;rw [Ad (Db s'.t),N6 i.1] at n
   have p:s.t=s'.t:=by
    apply Il;intro hc;by_cases y:s.t<s'.t
    .rw [Ac (by omega)] at e;exact o.1 e
    .rw [Ac (by omega)] at n;exact g.1 n.symm
   rw [Ad (by omega)] at e;have k:Ey s'.f q' s.t=s'.f:=N6 (by rw [p];exact i.1);rw [k] at e;have z:s=s':=(by obtain ⟨st,sf⟩:=s;obtain ⟨ac,ad⟩:=s';simp at p e;rw [p,e]);subst z;rw [ih s.t h.2 i.2 o.2 g.2 (fun x l=>⟨by have:=h.1 x l;omega,(m x (by simp [l])).2⟩) (fun x l=>⟨by have:=i.1 x l;omega,(c x (by simp [l])).2⟩) fun u h1 h2=>?_];have:=j u (by omega) h2;simp only [Ey] at this
   rwa [Ad h1,Ad h1] at this
def Zf {l c:List St} (g:Cb l) (a:Cb c) (v:∀ i,i+1<l.length->(nth l i).f≠(nth l (i+1)).f) (k:∀ i,i+1<c.length->(nth c i).f≠(nth c (i+1)).f)
  (p:∀ u,0<=u->u<1099511627776->val l u=val c u):l=c:=by
 cases l with
 | nil=>exact absurd g.pos (by simp)
 | cons s r=>
  cases c with
  | nil=>exact absurd a.pos (by simp)
  | cons s' r'=>
   have m:=Zd _ g.bh;have d:=Zd _ a.bh;have z:s.t=0:=g.zero;have q:s'.t=0:=a.zero
   have y:∀ x∈r,0<=x.t/\x.t<1099511627776:=fun x b=>by
    have:=m.1 x b;obtain ⟨j,n,e⟩:=R6 (D1 s b);exact ⟨by omega,by rw [<- e];exact g.last j n⟩
   have o:∀ x∈r',0<=x.t/\x.t<1099511627776:=fun x b=>by
    have:=d.1 x b;obtain ⟨j,n,e⟩:=R6 (D1 s' b);exact ⟨by omega,by rw [<- e];exact a.last j n⟩
   have h:=p 0 (Db _) (by omega);simp only [val,Ey] at h;rw [Ad (by omega),Ad (by omega),N6 (fun x b=>by have:=m.1 x b;omega),N6 (fun x b=>by have:=d.1 x b;omega)] at h;have hs:s=s':=(by obtain ⟨st,sf⟩:=s;obtain ⟨ac,ad⟩:=s';simp at z q h;rw [z,q,h]);subst hs;rw [Apb 0 m.2 d.2 (Aed s r v) (Aed s r' k) y o fun u h1 h2=>?_];have:=p u h1 h2;simp only [val,Ey] at this
   rwa [Ad (by omega),Ad (by omega)] at this
def Aee (l:List St):Prop:=∀ i,i+1<l.length->(nth l i).f≠(nth l (i+1)).f
def Aef {l p:List St} {fr c:Int} {g:V4->V4} (v:Cb l) (h:Qe l fr c g p) (_h0:0<=fr) (h1:fr<c) (h2:c<=1099511627776) :
  Cb p/\Aee p/\∀ u,0<=u->u<1099511627776->val p u=if fr<=u/\u<c then g (val l u) else val l u:=by
 obtain ⟨i,l1,e,f,m,d,rfl⟩:=h;obtain ⟨j,a1,a2,a3,a4,a5⟩:=m.facts v (by omega)
 have q:Cb f/\i<=e/\e<=f.length/\(nth f i).t=fr/\i<f.length/\(∀ u,0<=u->val f u=val l1 u)/\(c<1099511627776->e<f.length/\(nth f e).t=c)/\(c=1099511627776->e=f.length):=by
  rcases d with ⟨n,d⟩ | ⟨n,rfl,rfl⟩
  .obtain ⟨a,b1,b2,b3,b4,b5⟩:=d.facts j n;obtain ⟨x,r⟩:=b4 i a1 (by omega);exact ⟨a,by omega,by omega,by rw [r];exact a2,by omega,fun u o=>Aec j d n o,fun _=>⟨b1,b2⟩,fun h=>by omega⟩
  .exact ⟨j,by omega,Nat.le_refl _,a2,a1,fun _ _=>rfl,fun h=>by omega,fun _=>rfl⟩
 obtain ⟨a,y,z,k3,k4,k5,k6,k7⟩:=q;obtain ⟨x,r,c3,c4⟩:=Apa (Ao5 a g y z);refine ⟨x,c4,fun u o ac=>?_⟩;obtain ⟨k,b⟩:=Tp a o;rw [r,Ao4 a g y z b,k5 u o,Aec v m (by omega) o]
 have e1:i<=k↔fr<=u:=by
  constructor
  .intro ad;by_cases e:i=k
   .subst e;have:=b.2.1;omega
   .have:=a.bh i k (by omega) b.1;have:=b.2.1;omega
  .intro al;apply Il;intro hc;have:=b.2.2 i (by omega) k4;omega
 have e2:k<e↔u<c:=by
  have am:=b.1;by_cases n:c<1099511627776
  .obtain ⟨g1,g2⟩:=k6 n;constructor
   .intro s;have:=b.2.2 e s g1;omega
   .intro an;apply Il;intro hc;by_cases e':e=k
    .subst e';have:=b.2.1;omega
    .have:=a.bh e k (by omega) b.1;have:=b.2.1;omega
  .have:=k7 (by omega);omega
 simp only [e1,e2]
structure Inv (whole:V4) (l:List St):Prop where
 right:whole.right=true
 loose:Cb l
 gd:Aee l
 free:∀ u,0<=u->u<1099511627776->(val l u).right=true/\(val l u).fits whole=true
def _root_.Go.Proofs.YtimlcnhcjndijaaGreatDoor.V4.leq (u v:V4):Prop:=u.a<=v.a/\u.b<=v.b/\u.c<=v.c/\u.d<=v.d
def Ld {u v:V4}:u.fits v=true↔u.leq v:=by simp [V4.fits,V4.leq,and_assoc]
def Apc {u v:V4}:u.fits v=false↔¬ u.leq v:=by rw [<- Ld];simp
def E9 {u:V4}:u.right=true↔(0<=u.a/\u.a<=1073741824)/\(0<=u.b/\u.b<=1073741824)/\(0<=u.c/\u.c<=1073741824)/\(0<=u.d/\u.d<=1073741824):=by
 simp [V4.right,oj,and_assoc]
def Apd {u v:V4} (e:u.right=true) (f:v.right=true) (h:v.leq u):u.sub v=(⟨u.a-v.a,u.b-v.b,u.c-v.c,u.d-v.d⟩,0):=by
 have h1:=E9.1 e;have g:=E9.1 f;obtain ⟨a,b,c,d⟩:=h;unfold V4.sub;rw [Ad ⟨e,f⟩];unfold V4.told;rw [Ad];rw [E9]
 refine ⟨⟨?_,?_⟩,⟨?_,?_⟩,⟨?_,?_⟩,⟨?_,?_⟩⟩<;>simp only<;>omega
def Zg {u v:V4} (e:u.right=true) (f:v.right=true) (h:(⟨u.a+v.a,u.b+v.b,u.c+v.c,u.d+v.d⟩:V4).right=true):u.add v=(⟨u.a+v.a,u.b+v.b,u.c+v.c,u.d+v.d⟩,0):=by
 unfold V4.add;rw [Ad ⟨e,f⟩];unfold V4.told;rw [Ad h]
def Ape {u v:V4} (e:u.right=true) (f:v.right=true) (h:¬ (⟨u.a+v.a,u.b+v.b,u.c+v.c,u.d+v.d⟩:V4).right=true):(u.add v).2=30:=by
 unfold V4.add;rw [Ad ⟨e,f⟩];unfold V4.told;rw [Ac h]
def Apf {l:List St} (b:Cb l) {i:Nat} (c:i<l.length):val l (nth l i).t=(nth l i).f:=
 Mc b.bh ⟨c,Db _,fun j d a=>b.bh i j d a⟩
structure Apg (whole:V4) (S:Int->Prop) (F:Int->V4) (m:V4):Prop where
 low:∀ u,S u->m.leq (F u)
 cap:m.leq whole
 a:m.a=whole.a\/∃ u,S u/\m.a=(F u).a
 b:m.b=whole.b\/∃ u,S u/\m.b=(F u).b
 c:m.c=whole.c\/∃ u,S u/\m.c=(F u).c
 d:m.d=whole.d\/∃ u,S u/\m.d=(F u).d
structure Aph (S:Int->Prop) (F:Int->V4) (m:V4):Prop where
 high:∀ u,S u->(F u).leq m
 a0:0<=m.a/\0<=m.b/\0<=m.c/\0<=m.d
 a:m.a=0\/∃ u,S u/\m.a=(F u).a
 b:m.b=0\/∃ u,S u/\m.b=(F u).b
 c:m.c=0\/∃ u,S u/\m.c=(F u).c
 d:m.d=0\/∃ u,S u/\m.d=(F u).d
def _root_.Go.Proofs.YtimlcnhcjndijaaGreatDoor.V4.leq.refl (u:V4):u.leq u:=⟨Db _,Db _,Db _,Db _⟩
def _root_.Go.Proofs.YtimlcnhcjndijaaGreatDoor.V4.leq.trans {u v x:V4} (h:u.leq v) (k:v.leq x):u.leq x:=⟨Int.le_trans h.1 k.1,Int.le_trans h.2.1 k.2.1,Int.le_trans h.2.2.1 k.2.2.1,Int.le_trans h.2.2.2 k.2.2.2⟩
def Aeg (u v:V4):(u.least v).leq u/\(u.least v).leq v:=by
 simp only [V4.least,V4.leq];omega
def Aeh (u v:V4):u.leq (u.dq v)/\v.leq (u.dq v):=by
 simp only [V4.dq,V4.leq];omega
def Api (v:V4) (l:List St):(Ec v l).leq v/\∀ x∈l,(Ec v l).leq x.f:=by
 induction l generalizing v with
 | nil=>exact ⟨V4.leq.refl _,by simp⟩
 | cons s r ih=>
  obtain ⟨h1,a⟩:=ih (v.least s.f);refine ⟨h1.trans (Aeg _ _).1,fun x b=>?_⟩;rcases Gu.1 b with rfl | h
  .exact h1.trans (Aeg _ _).2
  .exact a x h
def Apj (v:V4) (l:List St):v.leq (En v l)/\∀ x∈l,x.f.leq (En v l):=by
 induction l generalizing v with
 | nil=>exact ⟨V4.leq.refl _,by simp⟩
 | cons s r ih=>
  obtain ⟨h1,a⟩:=ih (v.dq s.f);refine ⟨(Aeh _ _).1.trans h1,fun x b=>?_⟩;rcases Gu.1 b with rfl | h
  .exact (Aeh _ _).2.trans h1
  .exact a x h
def Apk (v:V4) (l:List St):((Ec v l).a=v.a\/∃ x∈l,(Ec v l).a=x.f.a)/\((Ec v l).b=v.b\/∃ x∈l,(Ec v l).b=x.f.b) /\
  ((Ec v l).c=v.c\/∃ x∈l,(Ec v l).c=x.f.c)/\((Ec v l).d=v.d\/∃ x∈l,(Ec v l).d=x.f.d):=by
 induction l generalizing v with
 | nil=>exact ⟨.inl rfl,.inl rfl,.inl rfl,.inl rfl⟩
 | cons s r ih=>
  obtain ⟨i,j,k,m⟩:=ih (v.least s.f);simp only [Ec];refine ⟨?_,?_,?_,?_⟩
  .rcases i with h | ⟨x,e,h⟩
   .rw [h];simp only [V4.least];by_cases g:v.a<=s.f.a
    .exact .inl (by omega)
    .exact .inr ⟨s,by simp,by omega⟩
   .exact .inr ⟨x,by simp [e],h⟩
  .rcases j with h | ⟨x,e,h⟩
   .rw [h];simp only [V4.least];by_cases g:v.b<=s.f.b
    .exact .inl (by omega)
    .exact .inr ⟨s,by simp,by omega⟩
   .exact .inr ⟨x,by simp [e],h⟩
  .rcases k with h | ⟨x,e,h⟩
   .rw [h];simp only [V4.least];by_cases g:v.c<=s.f.c
    .exact .inl (by omega)
    .exact .inr ⟨s,by simp,by omega⟩
   .exact .inr ⟨x,by simp [e],h⟩
  .rcases m with h | ⟨x,e,h⟩
   .rw [h];simp only [V4.least];by_cases g:v.d<=s.f.d
    .exact .inl (by omega)
    .exact .inr ⟨s,by simp,by omega⟩
   .exact .inr ⟨x,by simp [e],h⟩
def Apl (v:V4) (l:List St):((En v l).a=v.a\/∃ x∈l,(En v l).a=x.f.a)/\((En v l).b=v.b\/∃ x∈l,(En v l).b=x.f.b) /\
  ((En v l).c=v.c\/∃ x∈l,(En v l).c=x.f.c)/\((En v l).d=v.d\/∃ x∈l,(En v l).d=x.f.d):=by
 induction l generalizing v with
 | nil=>exact ⟨.inl rfl,.inl rfl,.inl rfl,.inl rfl⟩
 | cons s r ih=>
  obtain ⟨i,j,k,m⟩:=ih (v.dq s.f);simp only [En];refine ⟨?_,?_,?_,?_⟩
  .rcases i with h | ⟨x,e,h⟩
   .rw [h];simp only [V4.dq];by_cases g:s.f.a<=v.a
    .exact .inl (by omega)
    .exact .inr ⟨s,by simp,by omega⟩
   .exact .inr ⟨x,by simp [e],h⟩
  .rcases j with h | ⟨x,e,h⟩
   .rw [h];simp only [V4.dq];by_cases g:s.f.b<=v.b
    .exact .inl (by omega)
    .exact .inr ⟨s,by simp,by omega⟩
   .exact .inr ⟨x,by simp [e],h⟩
  .rcases k with h | ⟨x,e,h⟩
   .rw [h];simp only [V4.dq];by_cases g:s.f.c<=v.c
    .exact .inl (by omega)
    .exact .inr ⟨s,by simp,by omega⟩
   .exact .inr ⟨x,by simp [e],h⟩
  .rcases m with h | ⟨x,e,h⟩
   .rw [h];simp only [V4.dq];by_cases g:s.f.d<=v.d
    .exact .inl (by omega)
    .exact .inr ⟨s,by simp,by omega⟩
   .exact .inr ⟨x,by simp [e],h⟩
def Aei {l:List St} (b:Cb l) {A B:Int} (hA:0<=A) (q:A<B):∃ n,n<=(l.drop (pl l A)).length/\(∀ j,j<n->(nth (l.drop (pl l A)) j).t<B)/\(n<(l.drop (pl l A)).length->B<=(nth (l.drop (pl l A)) n).t) /\
  (∀ x∈(l.drop (pl l A)).take n,∃ u,A<=u/\u<B/\x.f=val l u)/\(∀ u,A<=u->u<B->∃ x∈(l.drop (pl l A)).take n,val l u=x.f):=by
 obtain ⟨k,d⟩:=Tp b hA;have r:=d.o8 b.bh;rw [<- r]
 obtain ⟨n,g,o,c⟩:∃ n,n<=(l.drop k).length/\(∀ j,j<n->(nth (l.drop k) j).t<B)/\(n<(l.drop k).length->B<=(nth (l.drop k) n).t):=by
  have s:∀ n,n<=(l.drop k).length->(∃ m,m<=(l.drop k).length/\(∀ j,j<m->(nth (l.drop k) j).t<B)/\(m<(l.drop k).length->B<=(nth (l.drop k) m).t))\/(∀ j,j<n->(nth (l.drop k) j).t<B):=by
   intro n
   induction n with
   | zero=>intro _;right;intro j a;omega
   | succ n ih=>
    intro hn;rcases ih (by omega) with h | h
    .exact .inl h
    .by_cases v:(nth (l.drop k) n).t<B
     .right;intro j a;by_cases e:j=n
      .subst e;exact v
      .exact h j (by omega)
     .exact .inl ⟨n,by omega,h,fun _=>by omega⟩
  rcases s _ Ln with h | h
  .exact h
  .exact ⟨_,Nat.le_refl _,h,fun h=>absurd h (by omega)⟩
 refine ⟨n,g,o,c,fun x hx=>?_,fun u h1 h2=>?_⟩
 .obtain ⟨i,hi,rfl⟩:=R6 hx;rw [Ff,G7] at hi;rw [V1 _ _ _ (by omega),Na];have p:=o i (by omega);rw [Na] at p;by_cases e:i=0
  .subst e;exact ⟨A,Db _,q,(Mc b.bh d).symm⟩
  .refine ⟨(nth l (k+i)).t,?_,p,(Apf b (by omega)).symm⟩;have:=d.2.2 (k+i) (by omega) (by omega);omega
 .obtain ⟨j,a⟩:=Tp b (u:=u) (by omega);have ac:k<=j:=by apply Il;intro v;have:=a.2.2 k (by omega) d.1;have:=d.2.1;omega
  have ad:=a.1
  have y:j-k<n:=by
   apply Il;intro v;rw [G7] at c g;have z:=c (by omega);rw [Na] at z;by_cases e:k+n=j
   .rw [e] at z;have:=a.2.1;omega
   .have:=b.bh (k+n) j (by omega) a.1;have:=a.2.1;omega
  refine ⟨nth ((l.drop k).take n) (j-k),Zc (by rw [Ff,G7];omega),?_⟩;rw [V1 _ _ _ y,Na,show k+(j-k)=j by omega];exact Mc b.bh a
def Apm {whole:V4} {l:List St} (i:Cb l) (fr d:Int):Apg whole (fun u=>max fr 0<=u/\u<min d 1099511627776) (val l) (Lc whole l fr d):=by
 unfold Lc;by_cases h:min d 1099511627776<=max fr 0
 .rw [Ad h];exact ⟨fun u g=>by omega,⟨Db _,Db _,Db _,Db _⟩,.inl rfl,.inl rfl,.inl rfl,.inl rfl⟩
 .rw [Ac h];obtain ⟨n,j,k,m,f,o⟩:=Aei i (A:=max fr 0) (B:=min d 1099511627776) (by omega) (by omega);rw [Ady _ _ n j whole k m];obtain ⟨p,q⟩:=Api whole ((l.drop (pl l (max fr 0))).take n);obtain ⟨r,s,mc,t⟩:=Apk whole ((l.drop (pl l (max fr 0))).take n);refine ⟨fun u g=>?_,p,?_,?_,?_,?_⟩
  .obtain ⟨x,a,e⟩:=o u g.1 g.2;rw [e];exact q x a
  .rcases r with h | ⟨x,a,h⟩
   .exact .inl h
   .obtain ⟨u,b,c,e⟩:=f x a;exact .inr ⟨u,⟨b,c⟩,by rw [h,e]⟩
  .rcases s with h | ⟨x,a,h⟩
   .exact .inl h
   .obtain ⟨u,b,c,e⟩:=f x a;exact .inr ⟨u,⟨b,c⟩,by rw [h,e]⟩
  .rcases mc with h | ⟨x,a,h⟩
   .exact .inl h
   .obtain ⟨u,b,c,e⟩:=f x a;exact .inr ⟨u,⟨b,c⟩,by rw [h,e]⟩
  .rcases t with h | ⟨x,a,h⟩
   .exact .inl h
   .obtain ⟨u,b,c,e⟩:=f x a;exact .inr ⟨u,⟨b,c⟩,by rw [h,e]⟩
def Aej {l:List St} (i:Cb l) {fr f:Int} (h0:0<=fr) (h1:fr<f):Aph (fun u=>fr<=u/\u<f) (val l) (E8 l fr f):=by
 unfold E8;obtain ⟨n,j,k,m,d,o⟩:=Aei i h0 h1;rw [Ad0 _ _ n j V4.zero k m];obtain ⟨p,q⟩:=Apj V4.zero ((l.drop (pl l fr)).take n);obtain ⟨r,s,mc,t⟩:=Apl V4.zero ((l.drop (pl l fr)).take n);refine ⟨fun u g=>?_,p,?_,?_,?_,?_⟩
 .obtain ⟨x,a,e⟩:=o u g.1 g.2;rw [e];exact q x a
 .rcases r with h | ⟨x,a,h⟩
  .exact .inl h
  .obtain ⟨u,b,c,e⟩:=d x a;exact .inr ⟨u,⟨b,c⟩,by rw [h,e]⟩
 .rcases s with h | ⟨x,a,h⟩
  .exact .inl h
  .obtain ⟨u,b,c,e⟩:=d x a;exact .inr ⟨u,⟨b,c⟩,by rw [h,e]⟩
 .rcases mc with h | ⟨x,a,h⟩
  .exact .inl h
  .obtain ⟨u,b,c,e⟩:=d x a;exact .inr ⟨u,⟨b,c⟩,by rw [h,e]⟩
 .rcases t with h | ⟨x,a,h⟩
  .exact .inl h
  .obtain ⟨u,b,c,e⟩:=d x a;exact .inr ⟨u,⟨b,c⟩,by rw [h,e]⟩
def Nb (u v:V4):V4:=⟨u.a-v.a,u.b-v.b,u.c-v.c,u.d-v.d⟩
def A3 (u v:V4):V4:=⟨u.a+v.a,u.b+v.b,u.c+v.c,u.d+v.d⟩
def Aek {whole:V4} {l:List St} (k:Inv whole l) {fr g:Int} (h0:0<=fr) (h1:fr<g) (n:g<=1099511627776) (v:V4) :
  v.leq (Lc whole l fr g)↔∀ u,fr<=u->u<g->v.leq (val l u):=by
 have i:=Apm (whole:=whole) k.loose fr g;constructor
 .intro h u a b;exact h.trans (i.low u ⟨by omega,by omega⟩)
 .intro h;have m:∀ u,fr<=u->u<g->(val l u).leq whole:=fun u a b=>Ld.1 (k.free u (by omega) (by omega)).2;have f:=(h fr (Db _) h1).trans (m fr (Db _) h1);refine ⟨?_,?_,?_,?_⟩
  .rcases i.a with e | ⟨u,j,e⟩
   .rw [e];exact f.1
   .rw [e];exact (h u (by omega) (by omega)).1
  .rcases i.b with e | ⟨u,j,e⟩
   .rw [e];exact f.2.1
   .rw [e];exact (h u (by omega) (by omega)).2.1
  .rcases i.c with e | ⟨u,j,e⟩
   .rw [e];exact f.2.2.1
   .rw [e];exact (h u (by omega) (by omega)).2.2.1
  .rcases i.d with e | ⟨u,j,e⟩
   .rw [e];exact f.2.2.2
   .rw [e];exact (h u (by omega) (by omega)).2.2.2
def Ael {whole:V4} {l:List St} (j:Inv whole l) {fr g:Int} (h0:0<=fr) (h1:fr<g) (z:g<=1099511627776) (v:V4) :
  (A3 (E8 l fr g) v).leq whole↔∀ u,fr<=u->u<g->(A3 (val l u) v).leq whole:=by
 have i:=Aej j.loose h0 h1;have k:=fun u (a:fr<=u) (b:u<g)=>E9.1 (j.free u (by omega) (by omega)).1;constructor
 .intro h u a b;have:=i.high u ⟨a,b⟩;obtain ⟨a1,a2,a3,a4⟩:=this;obtain ⟨m,n,o,p⟩:=h;simp only [A3] at m n o p
  refine ⟨?_,?_,?_,?_⟩<;>simp only [A3]<;>omega
 .intro h;have q:=h fr (Db _) h1;have r:=k fr (Db _) h1;obtain ⟨s,t,x,y⟩:=q;simp only [A3] at s t x y;refine ⟨?_,?_,?_,?_⟩
  .rcases i.a with e | ⟨u,f,e⟩
   .simp only [A3];omega
   .have:=(h u f.1 f.2).1;simp only [A3] at this ⊢;omega
  .rcases i.b with e | ⟨u,f,e⟩
   .simp only [A3];omega
   .have:=(h u f.1 f.2).2.1;simp only [A3] at this ⊢;omega
  .rcases i.c with e | ⟨u,f,e⟩
   .simp only [A3];omega
   .have:=(h u f.1 f.2).2.2.1;simp only [A3] at this ⊢;omega
  .rcases i.d with e | ⟨u,f,e⟩
   .simp only [A3];omega
   .have:=(h u f.1 f.2).2.2.2;simp only [A3] at this ⊢;omega
def Aem {whole:V4} {l:List St} (j:Inv whole l) {fr h:Int} (h0:0<=fr) (h1:fr<h) (p:h<=1099511627776):(E8 l fr h).right=true:=by
 have g:=Aej j.loose h0 h1;have i:=fun u (a:fr<=u) (b:u<h)=>E9.1 (j.free u (by omega) (by omega)).1;obtain ⟨k,m,n,o⟩:=g.a0;rw [E9];refine ⟨⟨k,?_⟩,⟨m,?_⟩,⟨n,?_⟩,⟨o,?_⟩⟩
 .rcases g.a with e | ⟨u,f,e⟩
  .omega
  .have:=i u f.1 f.2;omega
 .rcases g.b with e | ⟨u,f,e⟩
  .omega
  .have:=i u f.1 f.2;omega
 .rcases g.c with e | ⟨u,f,e⟩
  .omega
  .have:=i u f.1 f.2;omega
 .rcases g.d with e | ⟨u,f,e⟩
  .omega
  .have:=i u f.1 f.2;omega
def Qh (l:List St) (fr tt:Int) (v:V4) (r:Int) (l':List St):Prop:=
 (Bj fr tt v=false/\r=1/\l'=l)\/(Bj fr tt v=true/\¬ (∀ u,fr<=u->u<tt->v.leq (val l u))/\r=60/\l'=l) \/
  (Bj fr tt v=true/\(∀ u,fr<=u->u<tt->v.leq (val l u))/\r=0/\∀ u,0<=u->u<1099511627776->val l' u=if fr<=u/\u<tt then Nb (val l u) v else val l u)
def Qi (whole:V4) (l:List St) (fr tt:Int) (v:V4) (r:Int) (l':List St):Prop:=
 (Bj fr tt v=false/\r=1/\l'=l)\/(Bj fr tt v=true/\¬ (∀ u,fr<=u->u<tt->(A3 (val l u) v).leq whole)/\r=61/\l'=l) \/
  (Bj fr tt v=true/\(∀ u,fr<=u->u<tt->(A3 (val l u) v).leq whole)/\r=0/\∀ u,0<=u->u<1099511627776->val l' u=if fr<=u/\u<tt then A3 (val l u) v else val l u)
def Aen {whole:V4} {l k:List St} {fr g:Int} {v:V4} {r:Int} (c:Inv whole l) (h:Ad3 whole l fr g v r k):Inv whole k/\Qh l fr g v r k:=by
 rcases h with ⟨h1,i,j⟩ | ⟨h1,i,j,p⟩ | ⟨h1,i,j,p⟩
 .rw [j];exact ⟨c,.inl ⟨h1,i,rfl⟩⟩
 .obtain ⟨m,n,o,q⟩:=Mb h1;rw [p];exact ⟨c,.inr (.inl ⟨h1,fun s=>Apc.1 i ((Aek c m n o v).2 s),j,rfl⟩)⟩
 .obtain ⟨m,n,o,q⟩:=Mb h1;have a:=(Aek c m n o v).1 (Ld.1 i);obtain ⟨t,x,y⟩:=Aef c.loose p m n o
  have d:∀ u,0<=u->u<1099511627776->val k u=if fr<=u/\u<g then Nb (val l u) v else val l u:=by
   intro u e f;rw [y u e f];by_cases b:fr<=u/\u<g
   .rw [Ad b,Ad b,Apd (c.free u e f).1 q (a u b.1 b.2)];rfl
   .rw [Ac b,Ac b]
  refine ⟨⟨c.right,t,x,fun u e f=>?_⟩,.inr (.inr ⟨h1,a,j,d⟩)⟩;rw [d u e f];by_cases b:fr<=u/\u<g
  .rw [Ad b];have q1:=E9.1 (c.free u e f).1;have z:=Ld.1 (c.free u e f).2;have q3:=a u b.1 b.2;have q4:=E9.1 q;obtain ⟨a1,a2,a3,a4⟩:=z;obtain ⟨d1,d2,d3,d4⟩:=q3;rw [E9,Ld]
   refine ⟨⟨⟨?_,?_⟩,⟨?_,?_⟩,⟨?_,?_⟩,⟨?_,?_⟩⟩,?_,?_,?_,?_⟩<;>simp only [Nb]<;>omega
  .rw [Ac b];exact c.free u e f
def Aeo {whole:V4} {l z:List St} {fr e:Int} {v:V4} {r:Int} (f:Inv whole l) (h:Ad5 whole l fr e v r z):Inv whole z/\Qi whole l fr e v r z:=by
 rcases h with ⟨h1,h2,x⟩ | ⟨h1,h2,x,h4⟩ | ⟨h1,h2,y,x,h4⟩
 .rw [x];exact ⟨f,.inl ⟨h1,h2,rfl⟩⟩
 .obtain ⟨q,s,t,p⟩:=Mb h1;rw [h4];refine ⟨f,.inr (.inl ⟨h1,fun hh=>h2 ?_,x,rfl⟩)⟩;have hm:=(Ael f q s t v).2 hh;have i:=Aem f q s t;have q1:=E9.1 i;have q2:=E9.1 p;have q3:=E9.1 f.right;obtain ⟨e1,e2,e3,e4⟩:=hm;simp only [A3] at e1 e2 e3 e4
  have hr:(⟨(E8 l fr e).a+v.a,(E8 l fr e).b+v.b,(E8 l fr e).c+v.c,(E8 l fr e).d+v.d⟩:V4).right=true:=by rw [E9];refine ⟨⟨?_,?_⟩,⟨?_,?_⟩,⟨?_,?_⟩,⟨?_,?_⟩⟩<;>simp only<;>omega
  rw [Zg i p hr];exact ⟨rfl,Ld.2 ⟨e1,e2,e3,e4⟩⟩
 .obtain ⟨q,s,t,p⟩:=Mb h1;have i:=Aem f q s t;have hr:(⟨(E8 l fr e).a+v.a,(E8 l fr e).b+v.b,(E8 l fr e).c+v.c,(E8 l fr e).d+v.d⟩:V4).right=true:=by apply Il;intro hc;have:=Ape i p hc;omega
  rw [Zg i p hr] at y;have j:=(Ael f q s t v).1 (Ld.1 y);obtain ⟨c1,c2,c3⟩:=Aef f.loose h4 q s t;have ac:=E9.1 f.right;have q4:=E9.1 p
  have n:∀ u,0<=u->u<1099511627776->fr<=u->u<e->(A3 (val l u) v).right=true:=by
   intro u k m u2 u3;have q1:=E9.1 (f.free u k m).1;obtain ⟨d1,d2,d3,d4⟩:=j u u2 u3;simp only [A3] at d1 d2 d3 d4;rw [E9]
   refine ⟨⟨?_,?_⟩,⟨?_,?_⟩,⟨?_,?_⟩,⟨?_,?_⟩⟩<;>simp only [A3]<;>omega
  have o:∀ u,0<=u->u<1099511627776->val z u=if fr<=u/\u<e then A3 (val l u) v else val l u:=by
   intro u k m;rw [c3 u k m];by_cases g:fr<=u/\u<e
   .rw [Ad g,Ad g,Zg (f.free u k m).1 p (n u k m g.1 g.2)];rfl
   .rw [Ac g,Ac g]
  refine ⟨⟨f.right,c1,c2,fun u k m=>?_⟩,.inr (.inr ⟨h1,j,x,o⟩)⟩;rw [o u k m];by_cases g:fr<=u/\u<e
  .rw [Ad g];exact ⟨n u k m g.1 g.2,Ld.2 (j u g.1 g.2)⟩
  .rw [Ac g];exact f.free u k m
def Apn {whole:V4} (h:whole.right=true):Inv whole [⟨0,whole⟩]:=by
 refine ⟨h,⟨by simp,rfl,fun i j b c=>by simp at c;omega,fun i a=>?_⟩,fun i a=>by simp at a,fun u d e=>?_⟩
 .have:i=0:=by simpa using a
  subst this;simp [nth]
 .have:val [⟨0,whole⟩] u=whole:=by simp [val,Ey,d]
  rw [this];exact ⟨h,Ld.2 (V4.leq.refl _)⟩
structure Nd where
 pb:Nat
 sb:Nat
 cap:Nat
 whole:V4
 l:List St
def Nd.none:Nd:=⟨0,0,0,V4.zero,[]⟩
def nd (ps:List Nd) (i:Nat):Nd:=ps.getD i Nd.none
def Md {a:List Nd} {i:Nat} (x:Nd) (b:i<a.length) (j:Nat):nd (a.set i x) j=if j=i then x else nd a j:=by
 unfold nd;by_cases h:j=i
 .subst h;rw [Ad rfl];simp [List.getD,b]
 .rw [Ac h];simp [List.getD,Ne.symm h]
def Bc (ps:List Nd) (b:Nat):Prop:=∃ i,i<ps.length/\(b=(nd ps i).pb\/b=(nd ps i).sb)
structure B4 (w:World) (gb gs:Nat) (ao:Option Addr) (cap:Nat) (ps:List Nd):Prop where
 head:w.heap[gb]?=some (.cells #[.slice ao ps.length cap] 354 (0,0))
 addr:0<ps.length->ao=some ⟨gs,0,none⟩
 ptr:∀ i,i<ps.length->w.cell? ⟨gs,i,none⟩=some (.pointer (some ⟨(nd ps i).pb,0,none⟩))
 el:∀ i,i<ps.length->Cg w (nd ps i).pb (nd ps i).sb (nd ps i).cap (nd ps i).whole (nd ps i).l
 inv:∀ i,i<ps.length->Inv (nd ps i).whole (nd ps i).l
 apart:∀ i j,i<ps.length->j<ps.length->i≠j->(nd ps i).pb≠(nd ps j).pb/\(nd ps i).pb≠(nd ps j).sb/\(nd ps i).sb≠(nd ps j).sb
 own:∀ i,i<ps.length->(nd ps i).pb≠gb/\(nd ps i).sb≠gb/\(nd ps i).pb≠gs/\(nd ps i).sb≠gs
 l6:ps.length<=16
def B4.qj {w:World} {c a cap:Nat} {d:Option Addr} {b:List Nd} (h:B4 w c a d cap b) (h0:0<b.length):a<w.heap.size:=Su w _ (h.ptr 0 h0)
def B4.below {w w':World} {c d cap:Nat} {e:Option Addr} {f:List Nd} (h:B4 w c d e cap f) (b:Below w.heap.size w w'):B4 w' c d e cap f:=
 ⟨Ae b h.head (Ab h.head),h.addr,fun i a=>(Ag b (Su w _ (h.ptr i a))).trans (h.ptr i a),fun i a=>(h.el i a).below b (h.el i a).lt.1 (h.el i a).lt.2,h.inv,h.apart,h.own,h.l6⟩
def B4.j5 {w:World} {d e cap:Nat} {f:Option Addr} {a:List Nd} (h:B4 w d e f cap a) {b:Nat} (g:Bc a b):b<w.heap.size:=by
 obtain ⟨i,c,rfl | rfl⟩:=g
 .exact (h.el i c).lt.1
 .exact (h.el i c).lt.2
def B4.lg {w w':World} {v s cap:Nat} {ao:Option Addr} {f:List Nd} (h:B4 w v s ao cap f) {i m p:Nat} {x:List St} (n:i<f.length)
  (hp:Cg w' (nd f i).pb m p (nd f i).whole x) (hl:Inv (nd f i).whole x) (q:m=(nd f i).sb\/w.heap.size<=m) (t:Mod (fun b=>b=(nd f i).pb\/b=(nd f i).sb) w w') :
  B4 w' v s ao cap (f.set i ⟨(nd f i).pb,m,p,(nd f i).whole,x⟩):=by
 have y:=Ab h.head;have z:=h.qj (by omega);have u:=h.own i n;refine ⟨?_,?_,?_,?_,?_,?_,?_,?_⟩
 .rw [Dg];exact (t.block v y (by rintro (e | e)<;>omega)).trans h.head
 .rw [Dg];exact h.addr
 .intro j d;rw [Dg] at d;rw [Md _ n];have:=(Bp (a:=⟨s,j,none⟩) (w:=w) (t.block s z (by rintro (e | e)<;>omega))).trans (h.ptr j d);split
  .rename_i e;subst e;exact this
  .exact this
 .intro j d;rw [Dg] at d;rw [Md _ n];split
  .exact hp
  .rename_i e;have g:=h.el j d;have l:=h.apart i j n d (fun c=>e c.symm);have hb:=h.apart j i d n e;have h1:=t.block _ g.lt.1 (by rintro (c | c);exact l.1 c.symm;exact hb.2.1 c);have h2:=t.block _ g.lt.2 (by rintro (c | c);exact l.2.1 c.symm;exact l.2.2 c.symm);exact ⟨h1.trans g.head,g.row.of_block h2,g.ne⟩
 .intro j d;rw [Dg] at d;rw [Md _ n];split
  .exact hl
  .exact h.inv j d
 .intro j k d r o;rw [Dg] at d r;rw [Md _ n,Md _ n];by_cases e1:j=i
  .subst e1;rw [Ad rfl,Ac (Ne.symm o)];have l:=h.apart j k d r o;refine ⟨l.1,l.2.1,?_⟩;rcases q with e | e
   .simp only [e];exact l.2.2
   .have:=(h.el k r).lt.2;simp only;omega
  .rw [Ac e1];by_cases e2:k=i
   .subst e2;rw [Ad rfl];have l:=h.apart j k d r o;refine ⟨l.1,?_,?_⟩
    .rcases q with e | e
     .simp only [e];exact l.2.1
     .have:=(h.el j d).lt.1;simp only;omega
    .rcases q with e | e
     .simp only [e];exact l.2.2
     .have:=(h.el j d).lt.2;simp only;omega
   .rw [Ac e2];exact h.apart j k d r o
 .intro j d;rw [Dg] at d;rw [Md _ n];split
  .refine ⟨u.1,?_,u.2.2.1,?_⟩
   .rcases q with e | e
    .simp only [e];exact u.2.1
    .simp only;omega
   .rcases q with e | e
    .simp only [e];exact u.2.2.2
    .simp only;omega
  .exact h.own j d
 .rw [Dg];exact h.l6
def zi (zs:List Int) (i:Nat):Int:=zs.getD i 0
structure Ap (w:World) (ao:Option Addr) (n:Nat) (zs:List Int):Prop where
 len:zs.length=n
 max:n<=9223372036854775807
 cell:∀ i,i<n->∃ b off,ao=some ⟨b,off,none⟩/\b<w.heap.size/\w.cell? ⟨b,off+i,none⟩=some (.int .i64 (zi zs i))
def tw (ao:Option Addr) (S:Nat->Prop):Prop:=∀ b off,ao=some ⟨b,off,none⟩->¬ S b
def Ap.below {w w':World} {d:Option Addr} {n:Nat} {zs:List Int} (h:Ap w d n zs) {B:Nat} (f:Below B w w') (k:w.heap.size<=B):Ap w' d n zs:=
 ⟨h.len,h.max,fun i g=>by
  obtain ⟨b,a,e,c,j⟩:=h.cell i g
  exact ⟨b,a,e,Br c f.size,(Ag f (by omega)).trans j⟩⟩
def Ap.mod {w w':World} {f:Option Addr} {n:Nat} {zs:List Int} {S:Nat->Prop} (h:Ap w f n zs) (g:Mod S w w') (j:0<n->tw f S):Ap w' f n zs:=
 ⟨h.len,h.max,fun i k=>by
  obtain ⟨b,c,e,d,l⟩:=h.cell i k
  exact ⟨b,c,e,Br d g.size,(Bp (a:=⟨b,c+i,none⟩) (w:=w) (g.block b d (j (by omega) b c e))).trans l⟩⟩
structure D8 (n:Nat) (zs:List Int):Prop where
 pos:0<zs.length
 low:∀ i,i<zs.length->0<=zi zs i
 high:∀ i,i<zs.length->zi zs i<n
 bh:∀ i,i+1<zs.length->zi zs i<zi zs (i+1)
def Apo (n:Nat) (zs:List Int) (w:World) (e:Ending) (w':World):Prop:=
 ∃ b:Bool,e=.returned (.bool b)/\(b=true↔D8 n zs)/\Below w.heap.size w w'
def App (gb gs cap:Nat) (po:Option Addr) (ps:List Nd) (ao:Option Addr) (m c:Nat) (zs:List Int) (w:World) (hp:B4 w gb gs po cap ps) (v:Ap w ao m zs) :
  Calls Tryz.prog 284 #[.pointer (some ⟨gb,0,none⟩),.slice ao m c] w (Apo ps.length zs w):=by
 obtain ⟨n,hn⟩:=Ex (ps.length);have hh:=hp.head;have ac:=hp.l6;rw [<- hn] at hh ac;have c0:=Aa hh 0;simp at c0;have ad:=Ab hh;rw [<- hn];clear hp hh hn;have f:=v.len;have an:=v.max;replace ⟨v,f⟩:=H2 v f;by_cases h0:m=0
 .have d0:((m:Int) == 0)=true:=by rw [h0];rfl
  replace h0:=Hh h0;go_enter Tryz.func284,Tryz.ntmps284;go_wp2;go_ret;exact ⟨false,rfl,⟨fun h=>by simp at h,fun h=>by have:=h.pos;have:=f.out;have:=h0.out;omega⟩,Below.refl _ _⟩
 have d0:((m:Int) == 0)=false:=Bg.2 (by omega);have av:0<m:=by omega
 replace h0:=Hh h0;go_enter Tryz.func284,Tryz.ntmps284;go_wp2;go_loopw [5,6,16] (fun _ _ i wr=>∃ k:Nat,i=.int .i64 k/\k<=m/\Hid (∀ i,i<k->0<=zi zs i/\zi zs i<n/\(∀ j,i=j+1->zi zs j<zi zs i))/\Hid (Below w.heap.size w wr)) (fun _ _ i _=>m-(intOf i).toNat)
 case atStart=>exact ⟨0,rfl,Av _,(fun i h=>by omega),Below.refl _ _⟩
 case round=>
  obtain ⟨k,rfl,hk,l,g⟩:=hrel;have g0:=(Ag (o:=0) g.out ad).trans c0;by_cases hc:k<m
  .have al:(k:Int)<m:=(by omega);have aA:(0:Int)<=(k:Int):=(by omega);obtain ⟨b,aB,rfl,hb,a0⟩:=v.out.cell k hc;have b0:=(Ag g.out hb).trans a0;clear a0;obtain ⟨x,q⟩:=Ex (zi zs k);rw [<- q] at b0;replace q:=Hh q
   have s:Hid (¬ (0<=x/\x<n/\∀ j,k=j+1->zi zs j<x)->¬ D8 n zs):=fun h hg=>by
    have t:k<zs.length:=(by rw [f.out];exact hc);refine h ⟨by rw [q.out];exact hg.low k t,by rw [q.out];exact hg.high k t,fun j e=>?_⟩;subst e;rw [q.out];exact hg.bh j t
   by_cases p:x<0
   .have d1:decide (x<0)=true:=(by simpa using p);have a:=s.out (by omega);replace ⟨p,a⟩:=H2 p a;go_wp2;go_ret;exact ⟨false,rfl,⟨fun h=>by simp at h,fun h=>absurd h a.out⟩,g.out⟩
   have d1:decide (x<0)=false:=(by simpa using p);by_cases r:(n:Int)<=x
   .have d2:decide ((n:Int)<=x)=true:=(by simpa using r);have a:=s.out (by omega);replace ⟨p,r,a⟩:=H3 p r a;go_wp2;go_ret;exact ⟨false,rfl,⟨fun h=>by simp at h,fun h=>absurd h a.out⟩,g.out⟩
   have d2:decide ((n:Int)<=x)=false:=by simpa using r
   cases k with
   | zero=>
    rw [Nt] at b0
    have d:∀ i,i<0+1->0<=zi zs i/\zi zs i<n/\(∀ j,i=j+1->zi zs j<zi zs i):=by
     intro i u
     have:i=0:=by omega
     subst this;exact ⟨by rw [<- q.out];omega,by rw [<- q.out];omega,fun j e=>by omega⟩
    replace ⟨p,r,d⟩:=H3 p r d;go_wp2;go_roundw
    case rel=>exact ⟨0+1,by go_num,by omega,d.out,g.out⟩
    case measure=>simp [intOf];omega
   | succ j=>
    obtain ⟨b',ap,e',am,a1⟩:=v.out.cell j (by omega);cases e';have b1:=(Ag g.out am).trans a1;clear a1;obtain ⟨y,hy⟩:=Ex (zi zs j);rw [<- hy] at b1;replace hy:=Hh hy;have ej:IntKind.i64.wrap (((j+1:Nat):Int)-1)=(j:Int):=(by rw [Gt _ (by omega)];omega);have aC:IntKind.i64.wrap ((j:Int)+1-1)=(j:Int):=(by rw [Gt _ (by omega)];omega);have aD:(j:Int)<m:=(by omega);have aE:(0:Int)<=(j:Int):=(by omega);have aF:(0:Int)<(j:Int)+1:=(by omega);by_cases z:x<=y
    .have d3:decide (x<=y)=true:=(by simpa using z);have a:=s.out (fun h=>by have:=h.2.2 j rfl;rw [<- hy.out] at this;omega);replace ⟨p,r,z,a⟩:=H4 p r z a;go_wp2;go_ret;exact ⟨false,rfl,⟨fun h=>by simp at h,fun h=>absurd h a.out⟩,g.out⟩
    .have d3:decide (x<=y)=false:=by simpa using z
     have d:∀ i,i<j+1+1->0<=zi zs i/\zi zs i<n/\(∀ j,i=j+1->zi zs j<zi zs i):=by
      intro i u;by_cases e:i=j+1
      .subst e;refine ⟨by rw [<- q.out];omega,by rw [<- q.out];omega,fun j2 e=>?_⟩
       have:j2=j:=by omega
       subst this;rw [<- q.out,<- hy.out];omega
      .exact l.out i (by omega)
     replace ⟨p,r,z,d⟩:=H4 p r z d;go_wp2;go_roundw
     case rel=>exact ⟨j+1+1,by go_num,by omega,d.out,g.out⟩
     case measure=>simp [intOf];omega
  .have al:¬ (k:Int)<m:=(by omega);have aG:k=m:=(by omega);go_wp2;go_ret;refine ⟨true,rfl,⟨fun _=>⟨by rw [f.out];omega,fun i u=>?_,fun i u=>?_,fun i u=>?_⟩,fun _=>rfl⟩,g.out⟩
   .rw [f.out] at u;exact (l.out i (by omega)).1
   .rw [f.out] at u;exact (l.out i (by omega)).2.1
   .rw [f.out] at u;exact (l.out (i+1) (by omega)).2.2 i rfl
end Go.Proofs.YtimlcnhcjndijaaGreatDoor.Pl
