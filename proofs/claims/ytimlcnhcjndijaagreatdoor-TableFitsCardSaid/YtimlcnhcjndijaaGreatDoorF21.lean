/- Parts of a proof. No condition. -/
import Derived.Test.YtimlcnhcjndijaaGreatDoorF20
import Derived.Deep.DeepCutAuto
set_option linter.all false
set_option maxRecDepth 100000
set_option maxHeartbeats 1600000
namespace Go.Proofs.YtimlcnhcjndijaaGreatDoor
open Go renaming World->WD
open Go.RowKit renaming Below->BW
open Go.Proofs.Tryz
namespace Pl
open Go.RowKit
variable{zs:List Int}{k n:Nat}{whole:V4}{w w':WD}
def Age (whole:V4) (l:List St) (fr tt:Int) (v:V4) (r:Int) (l':List St):Prop:=
 (Bi fr tt v=false/\r=1/\l'=l)\/(Bi fr tt v=true/\¬ (((Fg l fr tt).add v).2=0/\((Fg l fr tt).add v).1.fits whole=true)/\r=61/\l'=l) \/
  (Bi fr tt v=true/\((Fg l fr tt).add v).2=0/\((Fg l fr tt).add v).1.fits whole=true/\r=0/\Ql l fr tt (fun f=>(f.add v).1) l')
def Sc {W w1:WD} (a:BW W.heap.size W w1):(∀ b o,b<W.heap.size->w1.cell? ⟨b,o,none⟩=W.cell? ⟨b,o,none⟩)/\(∀ b o,b<W.heap.size->w1.frozen? ⟨b,o,none⟩=W.frozen? ⟨b,o,none⟩):=
 ⟨fun b o h=>a.cell (p:=⟨b,o,none⟩) h,fun b o h=>a.frozen (p:=⟨b,o,none⟩) h⟩
def Agf (B:Nat) (w:WD) (n:Nat):BW B w (w.drewN n):=⟨rfl,rfl,rfl,Nat.le_refl _,fun _ _=>rfl⟩
def Xf (w2:WD) (r:V4×Int) (s9 s10:Value) (wx:WD):Prop:=
 ∃ g:Nat,s9=.pointer (some ⟨g,0,none⟩)/\s10=.int .i64 r.2/\w2.heap.size<=g/\wx.heap[g]?=some (.cells r.1.cells 30 (0,0))/\BW w2.heap.size w2 wx
def World.qg (w:WD) (b:Nat) (v:V4):WD:=
 (((w.setCell ⟨b,0,none⟩ (.int .i64 v.a)).setCell ⟨b,1,none⟩ (.int .i64 v.b)).setCell ⟨b,2,none⟩ (.int .i64 v.c)).setCell ⟨b,3,none⟩ (.int .i64 v.d)
def Agg  {b:Nat} {u:V4} (h:w.heap[b]?=some (.cells u.cells 30 (0,0))) (v:V4):(World.qg w b v).heap[b]?=some (.cells v.cells 30 (0,0)):=by
 unfold World.qg;rw [Am (Am (Am (Am h _ _) _ _) _ _) _ _];simp
def Agh {B:Nat}  (h:BW B w w') {b:Nat} (a:B<=b) (v:V4):BW B w (World.qg w' b v):=
 (((h.setCell a _).setCell a _).setCell a _).setCell a _
def Aq4 {c d e:WD} {r:V4×Int} (a:BW c.drew.heap.size c.drew d) (b:BW d.heap.size d e) :
  Xf c r (.pointer (some ⟨e.heap.size,0,none⟩)) (.int .i64 r.2) (e.alloc (.cells r.1.cells 30)):=by
 have f:=(Ib a).size;have g:=b.size;exact ⟨_,rfl,rfl,by omega,Ah _ _,((Ib a).trans (b.mono f)).alloc (by show c.heap.size<=_;omega) _⟩
def Aq5 {e c f:WD} {r:V4×Int} (b:BW e.drew.heap.size e.drew c) (a:BW (c.alloc (.cells V4.zero.cells 30)).heap.size (c.alloc (.cells V4.zero.cells 30)) f) :
  Xf e r (.pointer (some ⟨c.heap.size,0,none⟩)) (.int .i64 r.2) (World.qg f c.heap.size r.1):=by
 have d:=(Ib b).size;have g:=a.size;simp at g;refine ⟨_,rfl,rfl,d,Agg (Ae a (Ah _ _) (by simp)) _,Agh ?_ d _⟩;exact ((Ib b).alloc d _).trans (a.mono (by simp;exact Nat.le_succ_of_le d))
def Aq6 {c e f:WD} {r:V4×Int} (d:BW (c.alloc (.cells V4.zero.cells 30)).drew.heap.size (c.alloc (.cells V4.zero.cells 30)).drew e) (b:BW e.heap.size e f) :
  Xf c r (.pointer (some ⟨c.heap.size,0,none⟩)) (.int .i64 r.2) (World.qg f c.heap.size r.1):=by
 have a:=Ib d;have g:=a.size;simp at g;refine ⟨_,rfl,rfl,Nat.le_refl _,Agg (Ae b (Ae a (Ah _ _) (by simp)) (by omega)) _,Agh ?_ Ln _⟩;exact (Bn.trans (a.mono (by simp))).trans (b.mono (by omega))
def Agi (pb x cap:Nat) (whole:V4) (l:List St) (fr y:Int) (v:V4) (w:WD) (hp:Ci w pb x cap whole l) (hl:Cc l) :
  Calls prog 243 #[.pointer (some ⟨pb,0,none⟩),.int .i64 fr,.int .i64 y,v.val] w (Aar pb x whole (Age whole l fr y v) w):=by
 obtain ⟨aA,aB⟩:=hp.lt;replace ⟨hp,hl⟩:=H2 hp hl;go_enter func243,ntmps243;go_wp2_with fail;refine (Agb fr y v _).mono ?_;rintro e w2 ⟨rfl,z⟩;have i:=Bn.trans (z.mono (by simp));have g2:=Ae z (Ah _ _) (by simp);have d:=hp.below i aA aB;have s2:=i.size;have aL:=Ab g2;replace ⟨z,i,d⟩:=H3 z i d;by_cases hs:Bi fr y v=true
 .rw [hs];obtain ⟨b1,b2,b3,b4⟩:=Me hs;have x0:=Aa g2 0;have x1:=Aa g2 1;have x2:=Aa g2 2;have x3:=Aa g2 3;simp at x0 x1 x2 x3;replace ⟨g2,hs,b4⟩:=H3 g2 hs b4;have aJ:Hid (Ci w2.drew pb x cap whole l):=d.drew;have aK:Hid (∀ o,Ci (w2.alloc o).drew pb x cap whole l):=fun o=>(d.below ((Below.refl _ _).alloc Ln o) d.lt.1 d.lt.2).drew;obtain ⟨r,hr⟩:=Ex ((Fg l fr y).add v)
  have q:∀ w,Calls prog 281 #[(Fg l fr y).val,v.val] w fun e w'=>e=.returned (.tuple #[r.1.val,.int .i64 r.2])/\BW w.heap.size w w':=by rw [hr];exact Aft _ _
  replace ⟨q,hr⟩:=H2 q hr;have aR:w.heap.size<w2.heap.size+1:=by omega
  go_upto_region 3 with fail;go_cut [9,10] (fun s9 aM wx=>Xf w2 r s9 aM wx)
  case first=>
   go_region_law
    (first
      | (go_simp;go_at_call 282
         (first
           | refine (Aga pb x cap whole l fr y _ aJ.out hl.out b1 (by omega)).mono ?_
           | refine (Aga pb x cap whole l fr y _ (aK _) hl.out b1 (by omega)).mono ?_)
         rintro e w3 ⟨rfl,b⟩;have s3:=b.size;obtain ⟨aD,aH⟩:=Sc b
         (try simp at s3)
         (try simp at aD)
         (try simp at aH)
         have aS:w.heap.size<w3.heap.size:=by omega
         (try have aO:w2.heap.size<w3.heap.size:=by omega)
         replace b:=Hh b)
      | (go_simp;go_at_call 281;refine (q _).mono ?_;rintro e w4 ⟨rfl,c⟩;have s4:=c.size;obtain ⟨aE,aI⟩:=Sc c
         (try simp at s4)
         (try simp at aE)
         (try simp at aI)
         (try have aP:w3.heap.size<w4.heap.size:=by omega)
         (try have aQ:w2.heap.size<w4.heap.size:=by omega)
         replace c:=Hh c))
   all_goals
    go_wp2_with fail;go_meet
    first
     | exact Aq4 b.out c.out
     | exact Aq5 b.out c.out
     | exact Aq6 b.out c.out
  case rest=>
   obtain ⟨g,rfl,rfl,hg,n,p⟩:=hcut;have m:=i.trans (p.mono s2);have a:=hp.below m aA aB;have gv:=Ae p g2.out aL;have sx:=m.size;have e0:=Aa n 0;have e1:=Aa n 1;have e2:=Aa n 2;have e3:=Aa n 3;have q0:=Aa a.head 0;have q1:=Aa a.head 1;have q2:=Aa a.head 2;have q3:=Aa a.head 3;simp at e0 e1 e2 e3 q0 q1 q2 q3;clear x0 x1 x2 x3;replace ⟨n,p,m,a,gv⟩:=H5 n p m a gv;by_cases u:r.2=0
   .have aF:(r.2 == 0)=true:=(by simpa using u);have aG:(r.2 != 0)=false:=(by simpa using u);replace u:=Hh u;go_wp2_with fail;go_region_law
     (first
       | (go_simp;go_at_call 65;refine (V0 r.1 whole _).mono ?_;rintro e w5 ⟨rfl,an⟩
          replace an:=Hh an))
    all_goals
     have t:=Ib an.out;have j:=m.trans (t.mono (by simpa using sx));have ad:=hp.below j aA aB;have am:=Ae t gv.out (by have:=p.size;simp;omega);have s5:=j.size;replace ⟨ad,j,am⟩:=H3 ad j am;clear t;by_cases hf:r.1.fits whole=true
     .simp only [hf];replace hf:=Hh hf;go_wp2_with fail;refine (Af6 pb x cap w.heap.size v whole l fr y 283 (fun f=>(f.add v).1) _ ad.out hl.out b1 b2 b3 am.out (by omega) (by omega) Aq1 (fun s w1 h=>Aq3 s v _ w1 h)).mono ?_;rintro e w6 ⟨rfl,aN,aC,l',hc,ap,av,ao⟩;replace ⟨hc,ap,av,ao⟩:=H4 hc ap av ao;go_wp2;go_ret;refine ⟨0,aN,aC,l',rfl,.inr (.inr ⟨hs.out,by rw [<- hr.out];exact u.out,by rw [<- hr.out];exact hf.out,rfl,hc.out⟩),ap.out,?_,(Mod.af j.out).trans (ao.mono fun k _ h=>.inl h)⟩;rcases av.out with h | h
      .exact .inl h
      .exact .inr (A5 s5 h)
     .have ac:r.1.fits whole=false:=(by simpa using hf);simp only [ac];replace ac:=Hh ac;clear hf;go_wp2;go_ret;exact ⟨61,x,cap,l,rfl,.inr (.inl ⟨hs.out,(fun h=>by have:=ac.out;rw [hr.out,h.2] at this;cases this),rfl,rfl⟩),ad.out,.inl rfl,Mod.af j.out⟩
   .have aF:(r.2 == 0)=false:=(by simpa using u);have aG:(r.2 != 0)=true:=(by simpa using u);replace u:=Hh u;go_wp2_with fail;go_quiet (fail);go_wp2;go_ret;exact ⟨61,x,cap,l,rfl,.inr (.inl ⟨hs.out,(fun h=>u.out (by rw [hr.out];exact h.1)),rfl,rfl⟩),a.below (Agf _ _ _) a.lt.1 a.lt.2,.inl rfl,Mod.af (m.trans (Agf _ _ _))⟩
 .have al:Bi fr y v=false:=by simpa using hs
  rw [al];replace al:=Hh al;clear hs;go_wp2;go_ret;exact ⟨1,x,cap,l,rfl,.inl ⟨al.out,rfl,rfl⟩,d.out,.inl rfl,Mod.af i.out⟩
def E4 (d:V4):List St->Int->V4
 | [],_=>d
 | s :: r,u=>if s.t<=u then E4 s.f r u else d
def val (l:List St) (u:Int):V4:=E4 V4.zero l u
def Pe:List St->Prop
 | []=>True
 | s :: r=>(∀ x∈r,s.t<x.t)/\Pe r
def Sd {l:List St} {x:St} (h:x∈l):∃ i,i<l.length/\nth l i=x:=by
 obtain ⟨i,a,rfl⟩:=Py.1 h;exact ⟨i,a,by simp [nth,a]⟩
def Aas {l:List St} {i:Nat} (h:i<l.length):nth l i∈l:=by
 simp [nth,h]
def Aat (l:List St) (h:Md l):Pe l:=by
 induction l with
 | nil=>trivial
 | cons s r ih=>
  refine ⟨fun x b=>?_,ih (Aaq h)⟩;obtain ⟨i,a,rfl⟩:=Sd b;have:=h 0 (i+1) (by omega) (by simpa using a)
  rwa [Ja,Es] at this
def Aq9 (l:List St) (h:Pe l):Md l:=by
 induction l with
 | nil=>intro i j _ a;simp at a
 | cons s r ih=>
  intro i j b a
  cases j with
  | zero=>omega
  | succ j=>
   cases i with
   | zero=>rw [Ja,Es];exact h.1 _ (Aas (by simpa using a))
   | succ i=>rw [Es,Es];exact ih h.2 i j (by omega) (by simpa using a)
def Ob {d:V4} {l:List St} {u:Int} (h:∀ x∈l,u<x.t):E4 d l u=d:=by
 cases l with
 | nil=>rfl
 | cons s r=>simp only [E4];rw [Ac (by have:=h s (by simp);omega)]
def Ara {d:V4} {l:List St} {u:Int}  (e:Md l) (h:Kk l u k):E4 d l u=(nth l k).f:=by
 induction l generalizing d k with
 | nil=>exact absurd h.1 (by simp)
 | cons s r ih=>
  obtain ⟨h1,a,c⟩:=h;simp only [E4]
  cases k with
  | zero=>
   rw [Ja] at a ⊢;rw [Ad a,Ob];intro x m;obtain ⟨i,g,rfl⟩:=Sd m;have:=c (i+1) (by omega) (by simpa using g)
   rwa [Es] at this
  | succ k=>
   have h0:=e 0 (k+1) (by omega) h1;rw [Es] at a h0 ⊢;rw [Ja] at h0;rw [Ad (by omega)];exact ih (Aaq e) ⟨by simpa using h1,a,fun j n b=>by have:=c (j+1) (by omega) (by simpa using b);rwa [Es] at this⟩
def Mf {l:List St} {u:Int}  (a:Md l) (h:Kk l u k):val l u=(nth l k).f:=Ara a h
def T3 {l:List St} (b:Cc l) {u:Int} (g:0<=u):∃ k,Kk l u k:=by
 have c:∀ n,n<l.length->(∃ k,Kk l u k)\/(nth l n).t<=u:=by
  intro n
  induction n with
  | zero=>intro _;right;rw [b.zero];exact g
  | succ n ih=>
   intro i;rcases ih (by omega) with h | h
   .exact .inl h
   .by_cases d:(nth l (n+1)).t<=u
    .exact .inr d
    .refine .inl ⟨n,by omega,h,fun j f a=>?_⟩;by_cases e:j=n+1
     .subst e;omega
     .have:=b.az (n+1) j (by omega) a;omega
 have m:=b.pos;rcases c (l.length-1) (by omega) with h | h
 .exact h
 .exact ⟨l.length-1,by omega,h,fun j f a=>by omega⟩
def Agl {l x:List St} {t:Int}  (g:Cc l) (h:Qk l t n x) (ht:t<1099511627776) {u:Int} (hu:0<=u):val x u=val l u:=by
 obtain ⟨a,_,_,_,_,_⟩:=h.facts g ht;obtain ⟨k,z,h⟩:=h;rcases h with ⟨_,rfl,_⟩ | ⟨h1,rfl,rfl⟩
 .rfl
 .obtain ⟨j,r⟩:=T3 g hu;rw [Mf g.az r];obtain ⟨v,k2,k3⟩:=z;obtain ⟨j1,o,p⟩:=r;have b:=Af1 l k t v;have s:=Aam l k t v;by_cases y:j<k
  .rw [Mf a.az (k:=j) ⟨by omega,by rw [b j (by omega),Ad (by omega)];exact o,fun i q c=>?_⟩,b j (by omega),Ad (by omega)];have h3:=p (j+1) (by omega) (by omega);have h4:(nth (Kl l k t) (j+1)).t=(nth l (j+1)).t:=(by rw [b (j+1) (by omega),Ad (by omega)]);by_cases e:i=j+1
   .subst e;omega
   .have:=a.az (j+1) i (by omega) c;omega
  .by_cases m:t<=u
   .have e:(nth (Kl l k t) (j+1)).f=(nth l j).f/\(nth (Kl l k t) (j+1)).t<=u:=by
     rw [b (j+1) (by omega),Ac (by omega)];by_cases e:j=k
     .subst e;rw [Ad rfl];exact ⟨rfl,m⟩
     .rw [Ac (by omega),Nat.add_sub_cancel];exact ⟨rfl,o⟩
    rw [Mf a.az (k:=j+1) ⟨by omega,e.2,fun i q c=>?_⟩,e.1];rw [b i (by omega),Ac (by omega),Ac (by omega)];exact p (i-1) (by omega) (by omega)
   .have d:j=k:=(by apply Ii;intro hc;have:=k3 j (by omega) j1;omega);subst d;rw [Mf a.az (k:=j) ⟨by omega,by rw [b j (by omega),Ad (by omega)];exact o,fun i q c=>?_⟩,b j (by omega),Ad (by omega)];rw [b i (by omega),Ac (by omega)];split
    .show u<t;omega
    .exact p (i-1) (by omega) (by omega)
def Arb {l:List St} (r:Cc l) (g:V4->V4) {i e:Nat} (h:i<=e) (q:e<=l.length) {u:Int}  (f:Kk l u k) :
  val (Gq g i e l) u=if i<=k/\k<e then g (val l u) else val l u:=by
 have s:=Sb g i e l h q;have c:=Sa g i e l h q
 have m:∀ j,j<l.length->(nth (Gq g i e l) j).t=(nth l j).t:=fun j p=>by rw [s j p];split<;>rfl
 have v:Md (Gq g i e l):=fun a b n o=>by rw [c] at o;rw [m a (by omega),m b o];exact r.az a b n o
 rw [Mf v (k:=k) ⟨by rw [c];exact f.1,by rw [m k f.1];exact f.2.1,fun j p d=>by rw [c] at d;rw [m j d];exact f.2.2 j p d⟩,s k f.1,Mf r.az f]
 split<;>rfl
def Arc {l:List St} (f:Cc l) (g:V4->V4) {i e:Nat} (h:i<=e) (o:e<=l.length):Cc (Gq g i e l):=by
 have p:=Sb g i e l h o;have c:=Sa g i e l h o
 have k:∀ j,j<l.length->(nth (Gq g i e l) j).t=(nth l j).t:=fun j d=>by rw [p j d];split<;>rfl
 have q:=f.pos;exact ⟨by omega,by rw [k 0 q];exact f.zero,fun a b m n=>by rw [c] at n;rw [k a (by omega),k b n];exact f.az a b m n,fun j d=>by rw [c] at d;rw [k j d];exact f.last j d⟩
def Aau (p:V4) (l:List St):∀ x∈Fy p l,x∈l:=by
 induction l generalizing p with
 | nil=>simp [Fy]
 | cons s r ih=>
  intro x a;simp only [Fy] at a;split at a
  .exact Ce _ (ih _ x a)
  .rcases Gf.1 a with rfl | h
   .simp
   .exact Ce _ (ih _ x h)
def Ard (p:V4) (l:List St) (h:Pe l):Pe (Fy p l):=by
 induction l generalizing p with
 | nil=>exact h
 | cons s r ih=>
  simp only [Fy];split
  .exact ih _ h.2
  .exact ⟨fun x a=>h.1 x (Aau _ _ x a),ih _ h.2⟩
def Are (p:V4) (l:List St) (h:Pe l) (u:Int):E4 p (Fy p l) u=E4 p l u:=by
 induction l generalizing p with
 | nil=>rfl
 | cons s r ih=>
  simp only [Fy,E4];by_cases a:s.f=p
  .rw [Ad a];have e:=ih s.f h.2;rw [a] at e ⊢;rw [e];by_cases b:s.t<=u
   .rw [Ad b]
   .rw [Ac b]
    exact Ob fun x c=>by have:=h.1 x c;omega
  .rw [Ac a];simp only [E4];rw [ih s.f h.2]
def uh (p:V4):List St->Prop
 | []=>True
 | s :: r=>s.f≠p/\uh s.f r
def Arf (p:V4) (l:List St):uh p (Fy p l):=by
 induction l generalizing p with
 | nil=>trivial
 | cons s r ih=>
  simp only [Fy];split
  .next h=>have:=ih s.f;rw [h] at this ⊢;exact this
  .next h=>exact ⟨h,ih s.f⟩
def Arg {p:V4} {l:List St} (h:uh p l):∀ i,i+1<l.length->(nth l i).f≠(nth l (i+1)).f:=by
 induction l generalizing p with
 | nil=>intro i a;simp at a
 | cons s r ih=>
  intro i a
  cases i with
  | zero=>
   cases r with
   | nil=>simp at a
   | cons s2 r2=>rw [Ja,Es,Ja];exact P3 h.2.1
  | succ i=>rw [Es,Es];exact ih h.2 i (by simpa using a)
def Agm (s:St) (r:List St) (h:∀ i,i+1<(s :: r).length->(nth (s :: r) i).f≠(nth (s :: r) (i+1)).f):uh s.f r:=by
 induction r generalizing s with
 | nil=>trivial
 | cons s2 r ih=>
  refine ⟨?_,ih s2 fun i a=>?_⟩
  .have:=h 0 (by simp);rw [Ja,Es,Ja] at this;exact P3 this
  .have:=h (i+1) (by simpa using a);rwa [Es,Es] at this
def Arh {l:List St} (c:Cc l):Cc (B6 l)/\(∀ u,val (B6 l) u=val l u)/\(∀ x∈B6 l,x∈l)/\(∀ i,i+1<(B6 l).length->(nth (B6 l) i).f≠(nth (B6 l) (i+1)).f):=by
 cases l with
 | nil=>exact absurd c.pos (by simp)
 | cons s r=>
  have d:=Aat _ c.az
  have b:∀ x∈B6 (s :: r),x∈s :: r:=by
   intro x g;rcases Gf.1 g with rfl | h
   .simp
   .exact Ce _ (Aau _ _ x h)
  refine ⟨⟨by simp [B6],c.zero,Aq9 _ ⟨fun x g=>d.1 x (Aau _ _ x g),Ard _ _ d.2⟩,fun i k=>?_⟩,fun u=>?_,b,?_⟩
  .obtain ⟨j,m,e⟩:=Sd (b _ (Aas k));rw [<- e];exact c.last j m
  .simp only [B6,val,E4];rw [Are _ _ d.2]
  .exact Arg (p:=⟨s.f.a+1,0,0,0⟩) ⟨fun h=>by have:=Ca V4.a h;simp at this;omega,Arf s.f r⟩
def Ari {a:V4} {r e:List St} (t0:Int) (h:Pe r) (i:Pe e) (p:uh a r) (g:uh a e) (n:∀ x∈r,t0<=x.t/\x.t<1099511627776) (c:∀ x∈e,t0<=x.t/\x.t<1099511627776)
  (j:∀ u,t0<=u->u<1099511627776->E4 a r u=E4 a e u):r=e:=by
 induction r generalizing a e t0 with
 | nil=>
  cases e with
  | nil=>rfl
  | cons s' q'=>
   exfalso;have:=j s'.t (c s' (by simp)).1 (c s' (by simp)).2;simp only [E4] at this;rw [Ad (Cz _),Ob i.1] at this;exact g.1 this.symm
 | cons s q ih=>
  cases e with
  | nil=>
   exfalso;have:=j s.t (n s (by simp)).1 (n s (by simp)).2;simp only [E4] at this;rw [Ad (Cz _),Ob h.1] at this;exact p.1 this
  | cons s' q'=>
   have b:=n s (by simp);have v:=c s' (by simp);have d:=j s.t b.1 b.2;have m:=j s'.t v.1 v.2;simp only [E4] at d m;rw [Ad (Cz _),Ob h.1] at d;rw [Ad (Cz s'.t),Ob i.1] at m
   have o:s.t=s'.t:=by
    apply Ii;intro hc;by_cases z:s.t<s'.t
    .rw [Ac (by omega)] at d;exact p.1 d
    .rw [Ac (by omega)] at m;exact g.1 m.symm
   rw [Ad (by omega)] at d;have k:E4 s'.f q' s.t=s'.f:=Ob (by rw [o];exact i.1);rw [k] at d;have hs:s=s':=(by obtain ⟨st,sf⟩:=s;obtain ⟨ad,ac⟩:=s';simp at o d;rw [o,d]);subst hs;rw [ih s.t h.2 i.2 p.2 g.2 (fun x l=>⟨by have:=h.1 x l;omega,(n x (by simp [l])).2⟩) (fun x l=>⟨by have:=i.1 x l;omega,(c x (by simp [l])).2⟩) fun u h1 y=>?_];have:=j u (by omega) y;simp only [E4] at this
   rwa [Ad h1,Ad h1] at this
def Aav {l d:List St} (h:Cc l) (a:Cc d) (hu:∀ i,i+1<l.length->(nth l i).f≠(nth l (i+1)).f) (o:∀ i,i+1<d.length->(nth d i).f≠(nth d (i+1)).f)
  (p:∀ u,0<=u->u<1099511627776->val l u=val d u):l=d:=by
 cases l with
 | nil=>exact absurd h.pos (by simp)
 | cons s r=>
  cases d with
  | nil=>exact absurd a.pos (by simp)
  | cons s' r'=>
   have n:=Aat _ h.az;have c:=Aat _ a.az;have z:s.t=0:=h.zero;have q:s'.t=0:=a.zero
   have y:∀ x∈r,0<=x.t/\x.t<1099511627776:=fun x b=>by
    have:=n.1 x b;obtain ⟨j,m,e⟩:=Sd (Ce s b);exact ⟨by omega,by rw [<- e];exact h.last j m⟩
   have k:∀ x∈r',0<=x.t/\x.t<1099511627776:=fun x b=>by
    have:=c.1 x b;obtain ⟨j,m,e⟩:=Sd (Ce s' b);exact ⟨by omega,by rw [<- e];exact a.last j m⟩
   have g:=p 0 (Cz _) (by omega);simp only [val,E4] at g;rw [Ad (by omega),Ad (by omega),Ob (fun x b=>by have:=n.1 x b;omega),Ob (fun x b=>by have:=c.1 x b;omega)] at g;have hs:s=s':=(by obtain ⟨st,sf⟩:=s;obtain ⟨ad,ac⟩:=s';simp at z q g;rw [z,q,g]);subst hs;rw [Ari 0 n.2 c.2 (Agm s r hu) (Agm s r' o) y k fun u h1 v=>?_];have:=p u h1 v;simp only [val,E4] at this
   rwa [Ad (by omega),Ad (by omega)] at this
def Agn (l:List St):Prop:=∀ i,i+1<l.length->(nth l i).f≠(nth l (i+1)).f
def Ago {l p:List St} {fr d:Int} {g:V4->V4} (x:Cc l) (h:Ql l fr d g p) (_h0:0<=fr) (h1:fr<d) (h2:d<=1099511627776) :
  Cc p/\Agn p/\∀ u,0<=u->u<1099511627776->val p u=if fr<=u/\u<d then g (val l u) else val l u:=by
 obtain ⟨i,l1,e,f,m,c,rfl⟩:=h;obtain ⟨j,a1,a2,a3,a4,a5⟩:=m.facts x (by omega)
 have s:Cc f/\i<=e/\e<=f.length/\(nth f i).t=fr/\i<f.length/\(∀ u,0<=u->val f u=val l1 u)/\(d<1099511627776->e<f.length/\(nth f e).t=d)/\(d=1099511627776->e=f.length):=by
  rcases c with ⟨n,c⟩ | ⟨n,rfl,rfl⟩
  .obtain ⟨a,b1,b2,b3,b4,b5⟩:=c.facts j n;obtain ⟨v,q⟩:=b4 i a1 (by omega);exact ⟨a,by omega,by omega,by rw [q];exact a2,by omega,fun u o=>Agl j c n o,fun _=>⟨b1,b2⟩,fun h=>by omega⟩
  .exact ⟨j,by omega,Nat.le_refl _,a2,a1,fun _ _=>rfl,fun h=>by omega,fun _=>rfl⟩
 obtain ⟨a,y,z,k3,k4,k5,k6,k7⟩:=s;obtain ⟨v,q,c3,c4⟩:=Arh (Arc a g y z);refine ⟨v,c4,fun u o am=>?_⟩;obtain ⟨k,b⟩:=T3 a o;rw [q,Arb a g y z b,k5 u o,Agl x m (by omega) o]
 have e1:i<=k↔fr<=u:=by
  constructor
  .intro ad;by_cases e:i=k
   .subst e;have:=b.2.1;omega
   .have:=a.az i k (by omega) b.1;have:=b.2.1;omega
  .intro ac;apply Ii;intro hc;have:=b.2.2 i (by omega) k4;omega
 have e2:k<e↔u<d:=by
  have al:=b.1;by_cases n:d<1099511627776
  .obtain ⟨g1,g2⟩:=k6 n;constructor
   .intro r;have:=b.2.2 e r g1;omega
   .intro an;apply Ii;intro hc;by_cases e':e=k
    .subst e';have:=b.2.1;omega
    .have:=a.az e k (by omega) b.1;have:=b.2.1;omega
  .have:=k7 (by omega);omega
 simp only [e1,e2]
structure Inv (whole:V4) (l:List St):Prop where
 right:whole.right=true
 loose:Cc l
 gw:Agn l
 free:∀ u,0<=u->u<1099511627776->(val l u).right=true/\(val l u).fits whole=true
def _root_.Go.Proofs.YtimlcnhcjndijaaGreatDoor.V4.leq (u v:V4):Prop:=u.a<=v.a/\u.b<=v.b/\u.c<=v.c/\u.d<=v.d
def Kn {u v:V4}:u.fits v=true↔u.leq v:=by simp [V4.fits,V4.leq,and_assoc]
def Arj {u v:V4}:u.fits v=false↔¬ u.leq v:=by rw [<- Kn];simp
def Fh {u:V4}:u.right=true↔(0<=u.a/\u.a<=1073741824)/\(0<=u.b/\u.b<=1073741824)/\(0<=u.c/\u.c<=1073741824)/\(0<=u.d/\u.d<=1073741824):=by
 simp [V4.right,gd,and_assoc]
def Ark {u v:V4} (e:u.right=true) (f:v.right=true) (h:v.leq u):u.sub v=(⟨u.a-v.a,u.b-v.b,u.c-v.c,u.d-v.d⟩,0):=by
 have h1:=Fh.1 e;have g:=Fh.1 f;obtain ⟨a,b,c,d⟩:=h;unfold V4.sub;rw [Ad ⟨e,f⟩];unfold V4.told;rw [Ad];rw [Fh]
 refine ⟨⟨?_,?_⟩,⟨?_,?_⟩,⟨?_,?_⟩,⟨?_,?_⟩⟩<;>simp only<;>omega
def Aaw {u v:V4} (e:u.right=true) (f:v.right=true) (h:(⟨u.a+v.a,u.b+v.b,u.c+v.c,u.d+v.d⟩:V4).right=true):u.add v=(⟨u.a+v.a,u.b+v.b,u.c+v.c,u.d+v.d⟩,0):=by
 unfold V4.add;rw [Ad ⟨e,f⟩];unfold V4.told;rw [Ad h]
def Arl {u v:V4} (e:u.right=true) (f:v.right=true) (h:¬ (⟨u.a+v.a,u.b+v.b,u.c+v.c,u.d+v.d⟩:V4).right=true):(u.add v).2=30:=by
 unfold V4.add;rw [Ad ⟨e,f⟩];unfold V4.told;rw [Ac h]
def Arm {l:List St} (b:Cc l) {i:Nat} (c:i<l.length):val l (nth l i).t=(nth l i).f:=
 Mf b.az ⟨c,Cz _,fun j d a=>b.az i j d a⟩
structure Arn (whole:V4) (S:Int->Prop) (F:Int->V4) (m:V4):Prop where
 low:∀ u,S u->m.leq (F u)
 cap:m.leq whole
 a:m.a=whole.a\/∃ u,S u/\m.a=(F u).a
 b:m.b=whole.b\/∃ u,S u/\m.b=(F u).b
 c:m.c=whole.c\/∃ u,S u/\m.c=(F u).c
 d:m.d=whole.d\/∃ u,S u/\m.d=(F u).d
structure Aro (S:Int->Prop) (F:Int->V4) (m:V4):Prop where
 high:∀ u,S u->(F u).leq m
 a0:0<=m.a/\0<=m.b/\0<=m.c/\0<=m.d
 a:m.a=0\/∃ u,S u/\m.a=(F u).a
 b:m.b=0\/∃ u,S u/\m.b=(F u).b
 c:m.c=0\/∃ u,S u/\m.c=(F u).c
 d:m.d=0\/∃ u,S u/\m.d=(F u).d
def _root_.Go.Proofs.YtimlcnhcjndijaaGreatDoor.V4.leq.refl (u:V4):u.leq u:=⟨Cz _,Cz _,Cz _,Cz _⟩
def _root_.Go.Proofs.YtimlcnhcjndijaaGreatDoor.V4.leq.trans {u v x:V4} (h:u.leq v) (k:v.leq x):u.leq x:=⟨Vw h.1 k.1,Vw h.2.1 k.2.1,Vw h.2.2.1 k.2.2.1,Vw h.2.2.2 k.2.2.2⟩
def Agp (u v:V4):(u.least v).leq u/\(u.least v).leq v:=by
 simp only [V4.least,V4.leq];omega
def Agq (u v:V4):u.leq (u.dt v)/\v.leq (u.dt v):=by
 simp only [V4.dt,V4.leq];omega
def Arp (v:V4) (l:List St):(Ec v l).leq v/\∀ x∈l,(Ec v l).leq x.f:=by
 induction l generalizing v with
 | nil=>exact ⟨V4.leq.refl _,by simp⟩
 | cons s r ih=>
  obtain ⟨h1,a⟩:=ih (v.least s.f);refine ⟨h1.trans (Agp _ _).1,fun x b=>?_⟩;rcases Gf.1 b with rfl | h
  .exact h1.trans (Agp _ _).2
  .exact a x h
def Arq (v:V4) (l:List St):v.leq (Et v l)/\∀ x∈l,x.f.leq (Et v l):=by
 induction l generalizing v with
 | nil=>exact ⟨V4.leq.refl _,by simp⟩
 | cons s r ih=>
  obtain ⟨h1,a⟩:=ih (v.dt s.f);refine ⟨(Agq _ _).1.trans h1,fun x b=>?_⟩;rcases Gf.1 b with rfl | h
  .exact (Agq _ _).2.trans h1
  .exact a x h
def Arr (v:V4) (l:List St):((Ec v l).a=v.a\/∃ x∈l,(Ec v l).a=x.f.a)/\((Ec v l).b=v.b\/∃ x∈l,(Ec v l).b=x.f.b) /\
  ((Ec v l).c=v.c\/∃ x∈l,(Ec v l).c=x.f.c)/\((Ec v l).d=v.d\/∃ x∈l,(Ec v l).d=x.f.d):=by
 induction l generalizing v with
 | nil=>exact ⟨.inl rfl,.inl rfl,.inl rfl,.inl rfl⟩
 | cons s r ih=>
  obtain ⟨i,j,k,m⟩:=ih (v.least s.f);simp only [Ec];refine ⟨?_,?_,?_,?_⟩
  .rcases i with h | ⟨x,g,h⟩
   .rw [h];simp only [V4.least];by_cases e:v.a<=s.f.a
    .exact .inl (by omega)
    .exact .inr ⟨s,by simp,by omega⟩
   .exact .inr ⟨x,by simp [g],h⟩
  .rcases j with h | ⟨x,g,h⟩
   .rw [h];simp only [V4.least];by_cases e:v.b<=s.f.b
    .exact .inl (by omega)
    .exact .inr ⟨s,by simp,by omega⟩
   .exact .inr ⟨x,by simp [g],h⟩
  .rcases k with h | ⟨x,g,h⟩
   .rw [h];simp only [V4.least];by_cases e:v.c<=s.f.c
    .exact .inl (by omega)
    .exact .inr ⟨s,by simp,by omega⟩
   .exact .inr ⟨x,by simp [g],h⟩
  .rcases m with h | ⟨x,g,h⟩
   .rw [h];simp only [V4.least];by_cases e:v.d<=s.f.d
    .exact .inl (by omega)
    .exact .inr ⟨s,by simp,by omega⟩
   .exact .inr ⟨x,by simp [g],h⟩
def Ars (v:V4) (l:List St):((Et v l).a=v.a\/∃ x∈l,(Et v l).a=x.f.a)/\((Et v l).b=v.b\/∃ x∈l,(Et v l).b=x.f.b) /\
  ((Et v l).c=v.c\/∃ x∈l,(Et v l).c=x.f.c)/\((Et v l).d=v.d\/∃ x∈l,(Et v l).d=x.f.d):=by
 induction l generalizing v with
 | nil=>exact ⟨.inl rfl,.inl rfl,.inl rfl,.inl rfl⟩
 | cons s r ih=>
  obtain ⟨i,j,k,m⟩:=ih (v.dt s.f);simp only [Et];refine ⟨?_,?_,?_,?_⟩
  .rcases i with h | ⟨x,g,h⟩
   .rw [h];simp only [V4.dt];by_cases e:s.f.a<=v.a
    .exact .inl (by omega)
    .exact .inr ⟨s,by simp,by omega⟩
   .exact .inr ⟨x,by simp [g],h⟩
  .rcases j with h | ⟨x,g,h⟩
   .rw [h];simp only [V4.dt];by_cases e:s.f.b<=v.b
    .exact .inl (by omega)
    .exact .inr ⟨s,by simp,by omega⟩
   .exact .inr ⟨x,by simp [g],h⟩
  .rcases k with h | ⟨x,g,h⟩
   .rw [h];simp only [V4.dt];by_cases e:s.f.c<=v.c
    .exact .inl (by omega)
    .exact .inr ⟨s,by simp,by omega⟩
   .exact .inr ⟨x,by simp [g],h⟩
  .rcases m with h | ⟨x,g,h⟩
   .rw [h];simp only [V4.dt];by_cases e:s.f.d<=v.d
    .exact .inl (by omega)
    .exact .inr ⟨s,by simp,by omega⟩
   .exact .inr ⟨x,by simp [g],h⟩
def Agr {l:List St} (b:Cc l) {A B:Int} (hA:0<=A) (q:A<B):∃ n,n<=(l.drop (pl l A)).length/\(∀ j,j<n->(nth (l.drop (pl l A)) j).t<B)/\(n<(l.drop (pl l A)).length->B<=(nth (l.drop (pl l A)) n).t) /\
  (∀ x∈(l.drop (pl l A)).take n,∃ u,A<=u/\u<B/\x.f=val l u)/\(∀ u,A<=u->u<B->∃ x∈(l.drop (pl l A)).take n,val l u=x.f):=by
 obtain ⟨k,d⟩:=T3 b hA;have v:=d.pq b.az;rw [<- v]
 obtain ⟨n,o,p,c⟩:∃ n,n<=(l.drop k).length/\(∀ j,j<n->(nth (l.drop k) j).t<B)/\(n<(l.drop k).length->B<=(nth (l.drop k) n).t):=by
  have y:∀ n,n<=(l.drop k).length->(∃ m,m<=(l.drop k).length/\(∀ j,j<m->(nth (l.drop k) j).t<B)/\(m<(l.drop k).length->B<=(nth (l.drop k) m).t))\/(∀ j,j<n->(nth (l.drop k) j).t<B):=by
   intro n
   induction n with
   | zero=>intro _;right;intro j a;omega
   | succ n ih=>
    intro hn;rcases ih (by omega) with h | h
    .exact .inl h
    .by_cases r:(nth (l.drop k) n).t<B
     .right;intro j a;by_cases e:j=n
      .subst e;exact r
      .exact h j (by omega)
     .exact .inl ⟨n,by omega,h,fun _=>by omega⟩
  rcases y _ Ln with h | h
  .exact h
  .exact ⟨_,Nat.le_refl _,h,fun h=>absurd h (by omega)⟩
 refine ⟨n,o,p,c,fun x hx=>?_,fun u h1 h2=>?_⟩
 .obtain ⟨i,hi,rfl⟩:=Sd hx;rw [E8,G2] at hi;rw [Xd _ _ _ (by omega),Nb];have g:=p i (by omega);rw [Nb] at g;by_cases e:i=0
  .subst e;exact ⟨A,Cz _,q,(Mf b.az d).symm⟩
  .refine ⟨(nth l (k+i)).t,?_,g,(Arm b (by omega)).symm⟩;have:=d.2.2 (k+i) (by omega) (by omega);omega
 .obtain ⟨j,a⟩:=T3 b (u:=u) (by omega);have ad:k<=j:=by apply Ii;intro r;have:=a.2.2 k (by omega) d.1;have:=d.2.1;omega
  have ac:=a.1
  have s:j-k<n:=by
   apply Ii;intro r;rw [G2] at c o;have z:=c (by omega);rw [Nb] at z;by_cases e:k+n=j
   .rw [e] at z;have:=a.2.1;omega
   .have:=b.az (k+n) j (by omega) a.1;have:=a.2.1;omega
  refine ⟨nth ((l.drop k).take n) (j-k),Aas (by rw [E8,G2];omega),?_⟩;rw [Xd _ _ _ s,Nb,show k+(j-k)=j by omega];exact Mf b.az a
def Art  {l:List St} (i:Cc l) (fr f:Int):Arn whole (fun u=>max fr 0<=u/\u<min f 1099511627776) (val l) (Lg whole l fr f):=by
 unfold Lg;by_cases h:min f 1099511627776<=max fr 0
 .rw [Ad h];exact ⟨fun u g=>by omega,⟨Cz _,Cz _,Cz _,Cz _⟩,.inl rfl,.inl rfl,.inl rfl,.inl rfl⟩
 .rw [Ac h];obtain ⟨n,q,r,s,d,t⟩:=Agr i (A:=max fr 0) (B:=min f 1099511627776) (by omega) (by omega);rw [Af7 _ _ n q whole r s];obtain ⟨j,k⟩:=Arp whole ((l.drop (pl l (max fr 0))).take n);obtain ⟨m,o,mc,p⟩:=Arr whole ((l.drop (pl l (max fr 0))).take n);refine ⟨fun u g=>?_,j,?_,?_,?_,?_⟩
  .obtain ⟨x,a,e⟩:=t u g.1 g.2;rw [e];exact k x a
  .rcases m with h | ⟨x,a,h⟩
   .exact .inl h
   .obtain ⟨u,b,c,e⟩:=d x a;exact .inr ⟨u,⟨b,c⟩,by rw [h,e]⟩
  .rcases o with h | ⟨x,a,h⟩
   .exact .inl h
   .obtain ⟨u,b,c,e⟩:=d x a;exact .inr ⟨u,⟨b,c⟩,by rw [h,e]⟩
  .rcases mc with h | ⟨x,a,h⟩
   .exact .inl h
   .obtain ⟨u,b,c,e⟩:=d x a;exact .inr ⟨u,⟨b,c⟩,by rw [h,e]⟩
  .rcases p with h | ⟨x,a,h⟩
   .exact .inl h
   .obtain ⟨u,b,c,e⟩:=d x a;exact .inr ⟨u,⟨b,c⟩,by rw [h,e]⟩
def Ags {l:List St} (i:Cc l) {fr f:Int} (h0:0<=fr) (h1:fr<f):Aro (fun u=>fr<=u/\u<f) (val l) (Fg l fr f):=by
 unfold Fg;obtain ⟨n,q,r,s,d,t⟩:=Agr i h0 h1;rw [Af9 _ _ n q V4.zero r s];obtain ⟨j,k⟩:=Arq V4.zero ((l.drop (pl l fr)).take n);obtain ⟨m,o,mc,p⟩:=Ars V4.zero ((l.drop (pl l fr)).take n);refine ⟨fun u g=>?_,j,?_,?_,?_,?_⟩
 .obtain ⟨x,a,e⟩:=t u g.1 g.2;rw [e];exact k x a
 .rcases m with h | ⟨x,a,h⟩
  .exact .inl h
  .obtain ⟨u,b,c,e⟩:=d x a;exact .inr ⟨u,⟨b,c⟩,by rw [h,e]⟩
 .rcases o with h | ⟨x,a,h⟩
  .exact .inl h
  .obtain ⟨u,b,c,e⟩:=d x a;exact .inr ⟨u,⟨b,c⟩,by rw [h,e]⟩
 .rcases mc with h | ⟨x,a,h⟩
  .exact .inl h
  .obtain ⟨u,b,c,e⟩:=d x a;exact .inr ⟨u,⟨b,c⟩,by rw [h,e]⟩
 .rcases p with h | ⟨x,a,h⟩
  .exact .inl h
  .obtain ⟨u,b,c,e⟩:=d x a;exact .inr ⟨u,⟨b,c⟩,by rw [h,e]⟩
def Nc (u v:V4):V4:=⟨u.a-v.a,u.b-v.b,u.c-v.c,u.d-v.d⟩
def As (u v:V4):V4:=⟨u.a+v.a,u.b+v.b,u.c+v.c,u.d+v.d⟩
def Agt  {l:List St} (k:Inv whole l) {fr g:Int} (h0:0<=fr) (h1:fr<g) (n:g<=1099511627776) (v:V4) :
  v.leq (Lg whole l fr g)↔∀ u,fr<=u->u<g->v.leq (val l u):=by
 have i:=Art (whole:=whole) k.loose fr g;constructor
 .intro h u a b;exact h.trans (i.low u ⟨by omega,by omega⟩)
 .intro h;have m:∀ u,fr<=u->u<g->(val l u).leq whole:=fun u a b=>Kn.1 (k.free u (by omega) (by omega)).2;have f:=(h fr (Cz _) h1).trans (m fr (Cz _) h1);refine ⟨?_,?_,?_,?_⟩
  .rcases i.a with e | ⟨u,j,e⟩
   .rw [e];exact f.1
   .rw [e];exact (h u (by omega) (by omega)).1
  .rcases i.b with e | ⟨u,j,e⟩
   .rw [e];exact f.2.1
   .rw [e];exact (h u (by omega) (by omega)).2.1
  .rcases i.c with e | ⟨u,j,e⟩
   .rw [e];exact f.2.2.1
   .rw [e];exact (h u (by omega) (by omega)).2.2.1
  .rcases i.d with e | ⟨u,j,e⟩
   .rw [e];exact f.2.2.2
   .rw [e];exact (h u (by omega) (by omega)).2.2.2
def Agu  {l:List St} (j:Inv whole l) {fr i:Int} (h0:0<=fr) (h1:fr<i) (h2:i<=1099511627776) (v:V4) :
  (As (Fg l fr i) v).leq whole↔∀ u,fr<=u->u<i->(As (val l u) v).leq whole:=by
 have g:=Ags j.loose h0 h1;have x:=fun u (a:fr<=u) (b:u<i)=>Fh.1 (j.free u (by omega) (by omega)).1;constructor
 .intro h u a b;have:=g.high u ⟨a,b⟩;obtain ⟨a1,a2,a3,z⟩:=this;obtain ⟨k,m,n,o⟩:=h;simp only [As] at k m n o
  refine ⟨?_,?_,?_,?_⟩<;>simp only [As]<;>omega
 .intro h;have t:=h fr (Cz _) h1;have y:=x fr (Cz _) h1;obtain ⟨p,q,r,s⟩:=t;simp only [As] at p q r s;refine ⟨?_,?_,?_,?_⟩
  .rcases g.a with e | ⟨u,f,e⟩
   .simp only [As];omega
   .have:=(h u f.1 f.2).1;simp only [As] at this ⊢;omega
  .rcases g.b with e | ⟨u,f,e⟩
   .simp only [As];omega
   .have:=(h u f.1 f.2).2.1;simp only [As] at this ⊢;omega
  .rcases g.c with e | ⟨u,f,e⟩
   .simp only [As];omega
   .have:=(h u f.1 f.2).2.2.1;simp only [As] at this ⊢;omega
  .rcases g.d with e | ⟨u,f,e⟩
   .simp only [As];omega
   .have:=(h u f.1 f.2).2.2.2;simp only [As] at this ⊢;omega
def Agv  {l:List St} (j:Inv whole l) {fr i:Int} (h0:0<=fr) (h1:fr<i) (p:i<=1099511627776):(Fg l fr i).right=true:=by
 have g:=Ags j.loose h0 h1;have h:=fun u (a:fr<=u) (b:u<i)=>Fh.1 (j.free u (by omega) (by omega)).1;obtain ⟨k,m,n,o⟩:=g.a0;rw [Fh];refine ⟨⟨k,?_⟩,⟨m,?_⟩,⟨n,?_⟩,⟨o,?_⟩⟩
 .rcases g.a with e | ⟨u,f,e⟩
  .omega
  .have:=h u f.1 f.2;omega
 .rcases g.b with e | ⟨u,f,e⟩
  .omega
  .have:=h u f.1 f.2;omega
 .rcases g.c with e | ⟨u,f,e⟩
  .omega
  .have:=h u f.1 f.2;omega
 .rcases g.d with e | ⟨u,f,e⟩
  .omega
  .have:=h u f.1 f.2;omega
def Qo (l:List St) (fr tt:Int) (v:V4) (r:Int) (l':List St):Prop:=
 (Bi fr tt v=false/\r=1/\l'=l)\/(Bi fr tt v=true/\¬ (∀ u,fr<=u->u<tt->v.leq (val l u))/\r=60/\l'=l) \/
  (Bi fr tt v=true/\(∀ u,fr<=u->u<tt->v.leq (val l u))/\r=0/\∀ u,0<=u->u<1099511627776->val l' u=if fr<=u/\u<tt then Nc (val l u) v else val l u)
def Qp (whole:V4) (l:List St) (fr tt:Int) (v:V4) (r:Int) (l':List St):Prop:=
 (Bi fr tt v=false/\r=1/\l'=l)\/(Bi fr tt v=true/\¬ (∀ u,fr<=u->u<tt->(As (val l u) v).leq whole)/\r=61/\l'=l) \/
  (Bi fr tt v=true/\(∀ u,fr<=u->u<tt->(As (val l u) v).leq whole)/\r=0/\∀ u,0<=u->u<1099511627776->val l' u=if fr<=u/\u<tt then As (val l u) v else val l u)
def Agw  {l o:List St} {fr j:Int} {v:V4} {r:Int} (c:Inv whole l) (h:Agc whole l fr j v r o):Inv whole o/\Qo l fr j v r o:=by
 rcases h with ⟨h1,g,i⟩ | ⟨h1,g,i,q⟩ | ⟨h1,g,i,q⟩
 .rw [i];exact ⟨c,.inl ⟨h1,g,rfl⟩⟩
 .obtain ⟨k,m,n,p⟩:=Me h1;rw [q];exact ⟨c,.inr (.inl ⟨h1,fun y=>Arj.1 g ((Agt c k m n v).2 y),i,rfl⟩)⟩
 .obtain ⟨k,m,n,p⟩:=Me h1;have a:=(Agt c k m n v).1 (Kn.1 g);obtain ⟨s,t,x⟩:=Ago c.loose q k m n
  have d:∀ u,0<=u->u<1099511627776->val o u=if fr<=u/\u<j then Nc (val l u) v else val l u:=by
   intro u e f;rw [x u e f];by_cases b:fr<=u/\u<j
   .rw [Ad b,Ad b,Ark (c.free u e f).1 p (a u b.1 b.2)];rfl
   .rw [Ac b,Ac b]
  refine ⟨⟨c.right,s,t,fun u e f=>?_⟩,.inr (.inr ⟨h1,a,i,d⟩)⟩;rw [d u e f];by_cases b:fr<=u/\u<j
  .rw [Ad b];have q1:=Fh.1 (c.free u e f).1;have z:=Kn.1 (c.free u e f).2;have q3:=a u b.1 b.2;have q4:=Fh.1 p;obtain ⟨a1,a2,a3,a4⟩:=z;obtain ⟨d1,d2,d3,d4⟩:=q3;rw [Fh,Kn]
   refine ⟨⟨⟨?_,?_⟩,⟨?_,?_⟩,⟨?_,?_⟩,⟨?_,?_⟩⟩,?_,?_,?_,?_⟩<;>simp only [Nc]<;>omega
  .rw [Ac b];exact c.free u e f
def Agx  {l l':List St} {fr e:Int} {v:V4} {r:Int} (f:Inv whole l) (h:Age whole l fr e v r l'):Inv whole l'/\Qp whole l fr e v r l':=by
 rcases h with ⟨h1,z,y⟩ | ⟨h1,z,y,h4⟩ | ⟨h1,z,x,y,h4⟩
 .rw [y];exact ⟨f,.inl ⟨h1,z,rfl⟩⟩
 .obtain ⟨q,s,t,p⟩:=Me h1;rw [h4];refine ⟨f,.inr (.inl ⟨h1,fun hh=>z ?_,y,rfl⟩)⟩;have hm:=(Agu f q s t v).2 hh;have j:=Agv f q s t;have q1:=Fh.1 j;have q2:=Fh.1 p;have q3:=Fh.1 f.right;obtain ⟨e1,e2,e3,e4⟩:=hm;simp only [As] at e1 e2 e3 e4
  have hr:(⟨(Fg l fr e).a+v.a,(Fg l fr e).b+v.b,(Fg l fr e).c+v.c,(Fg l fr e).d+v.d⟩:V4).right=true:=by rw [Fh];refine ⟨⟨?_,?_⟩,⟨?_,?_⟩,⟨?_,?_⟩,⟨?_,?_⟩⟩<;>simp only<;>omega
  rw [Aaw j p hr];exact ⟨rfl,Kn.2 ⟨e1,e2,e3,e4⟩⟩
 .obtain ⟨q,s,t,p⟩:=Me h1;have j:=Agv f q s t;have hr:(⟨(Fg l fr e).a+v.a,(Fg l fr e).b+v.b,(Fg l fr e).c+v.c,(Fg l fr e).d+v.d⟩:V4).right=true:=by apply Ii;intro hc;have:=Arl j p hc;omega
  rw [Aaw j p hr] at x;have i:=(Agu f q s t v).1 (Kn.1 x);obtain ⟨c1,c2,c3⟩:=Ago f.loose h4 q s t;have ac:=Fh.1 f.right;have q4:=Fh.1 p
  have n:∀ u,0<=u->u<1099511627776->fr<=u->u<e->(As (val l u) v).right=true:=by
   intro u k m u2 u3;have q1:=Fh.1 (f.free u k m).1;obtain ⟨d1,d2,d3,d4⟩:=i u u2 u3;simp only [As] at d1 d2 d3 d4;rw [Fh]
   refine ⟨⟨?_,?_⟩,⟨?_,?_⟩,⟨?_,?_⟩,⟨?_,?_⟩⟩<;>simp only [As]<;>omega
  have o:∀ u,0<=u->u<1099511627776->val l' u=if fr<=u/\u<e then As (val l u) v else val l u:=by
   intro u k m;rw [c3 u k m];by_cases g:fr<=u/\u<e
   .rw [Ad g,Ad g,Aaw (f.free u k m).1 p (n u k m g.1 g.2)];rfl
   .rw [Ac g,Ac g]
  refine ⟨⟨f.right,c1,c2,fun u k m=>?_⟩,.inr (.inr ⟨h1,i,y,o⟩)⟩;rw [o u k m];by_cases g:fr<=u/\u<e
  .rw [Ad g];exact ⟨n u k m g.1 g.2,Kn.2 (i u g.1 g.2)⟩
  .rw [Ac g];exact f.free u k m
def Aru  (h:whole.right=true):Inv whole [⟨0,whole⟩]:=by
 refine ⟨h,⟨by simp,rfl,fun i j b c=>by simp at c;omega,fun i a=>?_⟩,fun i a=>by simp at a,fun u d e=>?_⟩
 .have:i=0:=by simpa using a
  subst this;simp [nth]
 .have:val [⟨0,whole⟩] u=whole:=by simp [val,E4,d]
  rw [this];exact ⟨h,Kn.2 (V4.leq.refl _)⟩
structure Nd where
 pb:Nat
 sb:Nat
 cap:Nat
 whole:V4
 l:List St
def Nd.none:Nd:=⟨0,0,0,V4.zero,[]⟩
def nd (ps:List Nd) (i:Nat):Nd:=ps.getD i Nd.none
def Mg {a:List Nd} {i:Nat} (x:Nd) (b:i<a.length) (j:Nat):nd (a.set i x) j=if j=i then x else nd a j:=by
 unfold nd;by_cases h:j=i
 .subst h;rw [Ad rfl];simp [List.getD,b]
 .rw [Ac h];simp [List.getD,P3 h]
def Bd (ps:List Nd) (b:Nat):Prop:=∃ i,i<ps.length/\(b=(nd ps i).pb\/b=(nd ps i).sb)
structure Bz (w:WD) (gb gs:Nat) (ao:Option Addr) (cap:Nat) (ps:List Nd):Prop where
 head:w.heap[gb]?=some (.cells #[.slice ao ps.length cap] 354 (0,0))
 addr:0<ps.length->ao=some ⟨gs,0,none⟩
 ptr:∀ i,i<ps.length->w.cell? ⟨gs,i,none⟩=some (.pointer (some ⟨(nd ps i).pb,0,none⟩))
 fj:∀ i,i<ps.length->Ci w (nd ps i).pb (nd ps i).sb (nd ps i).cap (nd ps i).whole (nd ps i).l
 inv:∀ i,i<ps.length->Inv (nd ps i).whole (nd ps i).l
 apart:∀ i j,i<ps.length->j<ps.length->i≠j->(nd ps i).pb≠(nd ps j).pb/\(nd ps i).pb≠(nd ps j).sb/\(nd ps i).sb≠(nd ps j).sb
 own:∀ i,i<ps.length->(nd ps i).pb≠gb/\(nd ps i).sb≠gb/\(nd ps i).pb≠gs/\(nd ps i).sb≠gs
 ml:ps.length<=16
def Bz.rf  {d a cap:Nat} {c:Option Addr} {b:List Nd} (h:Bz w d a c cap b) (h0:0<b.length):a<w.heap.size:=S6 w _ (h.ptr 0 h0)
def Bz.below  {d e cap:Nat} {c:Option Addr} {f:List Nd} (h:Bz w d e c cap f) (b:BW w.heap.size w w'):Bz w' d e c cap f:=
 ⟨Ae b h.head (Ab h.head),h.addr,fun i a=>(Ag b (S6 w _ (h.ptr i a))).trans (h.ptr i a),fun i a=>(h.fj i a).below b (h.fj i a).lt.1 (h.fj i a).lt.2,h.inv,h.apart,h.own,h.ml⟩
def Bz.j7  {e f cap:Nat} {d:Option Addr} {c:List Nd} (h:Bz w e f d cap c) {b:Nat} (g:Bd c b):b<w.heap.size:=by
 obtain ⟨i,a,rfl | rfl⟩:=g
 .exact (h.fj i a).lt.1
 .exact (h.fj i a).lt.2
def Bz.ji  {v s cap:Nat} {ao:Option Addr} {l:List Nd} (h:Bz w v s ao cap l) {i o p:Nat} {z:List St} (m:i<l.length)
  (hp:Ci w' (nd l i).pb o p (nd l i).whole z) (hl:Inv (nd l i).whole z) (r:o=(nd l i).sb\/w.heap.size<=o) (t:Mod (fun b=>b=(nd l i).pb\/b=(nd l i).sb) w w') :
  Bz w' v s ao cap (l.set i ⟨(nd l i).pb,o,p,(nd l i).whole,z⟩):=by
 have x:=Ab h.head;have y:=h.rf (by omega);have u:=h.own i m;refine ⟨?_,?_,?_,?_,?_,?_,?_,?_⟩
 .rw [Dm];exact (t.block v x (by rintro (e | e)<;>omega)).trans h.head
 .rw [Dm];exact h.addr
 .intro j d;rw [Dm] at d;rw [Mg _ m];have:=(Bp (a:=⟨s,j,none⟩) (w:=w) (t.block s y (by rintro (e | e)<;>omega))).trans (h.ptr j d);split
  .rename_i e;subst e;exact this
  .exact this
 .intro j d;rw [Dm] at d;rw [Mg _ m];split
  .exact hp
  .rename_i e;have g:=h.fj j d;have f:=h.apart i j m d (fun c=>e c.symm);have hb:=h.apart j i d m e;have h1:=t.block _ g.lt.1 (by rintro (c | c);exact f.1 c.symm;exact hb.2.1 c);have h2:=t.block _ g.lt.2 (by rintro (c | c);exact f.2.1 c.symm;exact f.2.2 c.symm);exact ⟨h1.trans g.head,g.row.of_block h2,g.ne⟩
 .intro j d;rw [Dm] at d;rw [Mg _ m];split
  .exact hl
  .exact h.inv j d
 .intro j k d q n;rw [Dm] at d q;rw [Mg _ m,Mg _ m];by_cases e1:j=i
  .subst e1;rw [Ad rfl,Ac (P3 n)];have f:=h.apart j k d q n;refine ⟨f.1,f.2.1,?_⟩;rcases r with e | e
   .simp only [e];exact f.2.2
   .have:=(h.fj k q).lt.2;simp only;omega
  .rw [Ac e1];by_cases e2:k=i
   .subst e2;rw [Ad rfl];have f:=h.apart j k d q n;refine ⟨f.1,?_,?_⟩
    .rcases r with e | e
     .simp only [e];exact f.2.1
     .have:=(h.fj j d).lt.1;simp only;omega
    .rcases r with e | e
     .simp only [e];exact f.2.2
     .have:=(h.fj j d).lt.2;simp only;omega
   .rw [Ac e2];exact h.apart j k d q n
 .intro j d;rw [Dm] at d;rw [Mg _ m];split
  .refine ⟨u.1,?_,u.2.2.1,?_⟩
   .rcases r with e | e
    .simp only [e];exact u.2.1
    .simp only;omega
   .rcases r with e | e
    .simp only [e];exact u.2.2.2
    .simp only;omega
  .exact h.own j d
 .rw [Dm];exact h.ml
def zi (zs:List Int) (i:Nat):Int:=zs.getD i 0
structure Ar (w:WD) (ao:Option Addr) (n:Nat) (zs:List Int):Prop where
 len:zs.length=n
 max:n<=9223372036854775807
 cell:∀ i,i<n->∃ b off,ao=some ⟨b,off,none⟩/\b<w.heap.size/\w.cell? ⟨b,off+i,none⟩=some (.int .i64 (zi zs i))
def ug (ao:Option Addr) (S:Nat->Prop):Prop:=∀ b off,ao=some ⟨b,off,none⟩->¬ S b
def Ar.below  {d:Option Addr}   (h:Ar w d n zs) {B:Nat} (f:BW B w w') (k:w.heap.size<=B):Ar w' d n zs:=
 ⟨h.len,h.max,fun i j=>by
  obtain ⟨b,c,e,a,g⟩:=h.cell i j
  exact ⟨b,c,e,Bx a f.size,(Ag f (by omega)).trans g⟩⟩
def Ar.mod  {f:Option Addr}   {S:Nat->Prop} (h:Ar w f n zs) (g:Mod S w w') (l:0<n->ug f S):Ar w' f n zs:=
 ⟨h.len,h.max,fun i k=>by
  obtain ⟨b,c,e,d,j⟩:=h.cell i k
  exact ⟨b,c,e,Bx d g.size,(Bp (a:=⟨b,c+i,none⟩) (w:=w) (g.block b d (l (by omega) b c e))).trans j⟩⟩
structure Dv (n:Nat) (zs:List Int):Prop where
 pos:0<zs.length
 low:∀ i,i<zs.length->0<=zi zs i
 high:∀ i,i<zs.length->zi zs i<n
 az:∀ i,i+1<zs.length->zi zs i<zi zs (i+1)
def Arv (n:Nat) (zs:List Int) (w:WD) (e:Ending) (w':WD):Prop:=
 ∃ b:Bool,e=.returned (.bool b)/\(b=true↔Dv n zs)/\BW w.heap.size w w'
def Arw (gb gs cap:Nat) (po:Option Addr) (ps:List Nd) (ao:Option Addr) (m c:Nat) (zs:List Int) (w:WD) (hp:Bz w gb gs po cap ps) (v:Ar w ao m zs) :
  Calls prog 284 #[.pointer (some ⟨gb,0,none⟩),.slice ao m c] w (Arv ps.length zs w):=by
 obtain ⟨n,hn⟩:=Ex (ps.length);have hh:=hp.head;have ac:=hp.ml;rw [<- hn] at hh ac;have c0:=Aa hh 0;simp at c0;have am:=Ab hh;rw [<- hn];clear hp hh hn;have f:=v.len;have an:=v.max;replace ⟨v,f⟩:=H2 v f;by_cases h0:m=0
 .have d0:((m:Int) == 0)=true:=by rw [h0];rfl
  replace h0:=Hh h0;go_enter func284,ntmps284;go_wp2;go_ret;exact ⟨false,rfl,⟨fun h=>by simp at h,fun h=>by have:=h.pos;have:=f.out;have:=h0.out;omega⟩,Below.refl _ _⟩
 have d0:((m:Int) == 0)=false:=Bl.2 (by omega);have aE:0<m:=by omega
 replace h0:=Hh h0;go_enter func284,ntmps284;go_wp2;go_loopw [5,6,16] (fun _ _ i wr=>∃ k:Nat,i=.int .i64 k/\k<=m/\Hid (∀ i,i<k->0<=zi zs i/\zi zs i<n/\(∀ j,i=j+1->zi zs j<zi zs i))/\Hid (BW w.heap.size w wr)) (fun _ _ i _=>m-(intOf i).toNat)
 case atStart=>exact ⟨0,rfl,Aq _,(fun i h=>by omega),Below.refl _ _⟩
 case round=>
  obtain ⟨k,rfl,hk,l,g⟩:=hrel;have g0:=(Ag (o:=0) g.out am).trans c0;by_cases hc:k<m
  .have al:(k:Int)<m:=(by omega);have aC:(0:Int)<=(k:Int):=(by omega);obtain ⟨b,aG,rfl,hb,a0⟩:=v.cell k hc;have b0:=(Ag g.out hb).trans a0;clear a0;obtain ⟨x,q⟩:=Ex (zi zs k);rw [<- q] at b0;replace q:=Hh q
   have s:Hid (¬ (0<=x/\x<n/\∀ j,k=j+1->zi zs j<x)->¬ Dv n zs):=fun h hg=>by
    have u:k<zs.length:=(by rw [f.out];exact hc);refine h ⟨by rw [q.out];exact hg.low k u,by rw [q.out];exact hg.high k u,fun j e=>?_⟩;subst e;rw [q.out];exact hg.az j u
   by_cases p:x<0
   .have d1:decide (x<0)=true:=(by simpa using p);have a:=s (by omega);replace ⟨p,a⟩:=H2 p a;go_wp2;go_ret;exact ⟨false,rfl,⟨fun h=>by simp at h,fun h=>absurd h a.out⟩,g.out⟩
   have d1:decide (x<0)=false:=(by simpa using p);by_cases r:(n:Int)<=x
   .have d2:decide ((n:Int)<=x)=true:=(by simpa using r);have a:=s (by omega);replace ⟨p,r,a⟩:=H3 p r a;go_wp2;go_ret;exact ⟨false,rfl,⟨fun h=>by simp at h,fun h=>absurd h a.out⟩,g.out⟩
   have d2:decide ((n:Int)<=x)=false:=by simpa using r
   cases k with
   | zero=>
    rw [Io] at b0
    have d:∀ i,i<0+1->0<=zi zs i/\zi zs i<n/\(∀ j,i=j+1->zi zs j<zi zs i):=by
     intro i t
     have:i=0:=by omega
     subst this;exact ⟨by rw [<- q.out];omega,by rw [<- q.out];omega,fun j e=>by omega⟩
    replace ⟨p,r,d⟩:=H3 p r d;go_wp2;go_roundw
    case rel=>exact ⟨0+1,by go_num,by omega,d.out,g.out⟩
    case measure=>simp [intOf];omega
   | succ j=>
    obtain ⟨b',ap,e',ad,a1⟩:=v.cell j (by omega);cases e';have b1:=(Ag g.out ad).trans a1;clear a1;obtain ⟨y,hy⟩:=Ex (zi zs j);rw [<- hy] at b1;replace hy:=Hh hy;have ej:IntKind.i64.wrap (((j+1:Nat):Int)-1)=(j:Int):=(by rw [E9 _ (by omega)];omega);have av:IntKind.i64.wrap ((j:Int)+1-1)=(j:Int):=(by rw [E9 _ (by omega)];omega);have aB:(j:Int)<m:=(by omega);have aA:(0:Int)<=(j:Int):=(by omega);have aF:(0:Int)<(j:Int)+1:=(by omega);by_cases z:x<=y
    .have d3:decide (x<=y)=true:=(by simpa using z);have a:=s (fun h=>by have:=h.2.2 j rfl;rw [<- hy.out] at this;omega);replace ⟨p,r,z,a⟩:=H4 p r z a;go_wp2;go_ret;exact ⟨false,rfl,⟨fun h=>by simp at h,fun h=>absurd h a.out⟩,g.out⟩
    .have d3:decide (x<=y)=false:=by simpa using z
     have d:∀ i,i<j+1+1->0<=zi zs i/\zi zs i<n/\(∀ j,i=j+1->zi zs j<zi zs i):=by
      intro i t;by_cases e:i=j+1
      .subst e;refine ⟨by rw [<- q.out];omega,by rw [<- q.out];omega,fun j2 e=>?_⟩
       have:j2=j:=by omega
       subst this;rw [<- q.out,<- hy.out];omega
      .exact l.out i (by omega)
     replace ⟨p,r,z,d⟩:=H4 p r z d;go_wp2;go_roundw
     case rel=>exact ⟨j+1+1,by go_num,by omega,d.out,g.out⟩
     case measure=>simp [intOf];omega
  .have al:¬ (k:Int)<m:=(by omega);have aD:k=m:=(by omega);go_wp2;go_ret;refine ⟨true,rfl,⟨fun _=>⟨by rw [f.out];omega,fun i t=>?_,fun i t=>?_,fun i t=>?_⟩,fun _=>rfl⟩,g.out⟩
   .rw [f.out] at t;exact (l i (by omega)).1
   .rw [f.out] at t;exact (l i (by omega)).2.1
   .rw [f.out] at t;exact (l (i+1) (by omega)).2.2 i rfl
