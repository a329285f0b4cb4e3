/- Parts of a proof. No condition. -/
import Derived.Test.YtimlcnhcjndijaaGreatDoorG08
import Derived.Test.YtimlcnhcjndijaaGreatDoorG10
import Derived.Maps.OwnIn
set_option linter.all false
set_option maxRecDepth 100000
set_option maxHeartbeats 6400000
namespace Go.Proofs.YtimlcnhcjndijaaGreatDoor
open Value renaming pointer->Q,string->Y,int->G,slice->J,tuple->E,bool->D
open Option renaming some->Z,none->I
open Obj renaming cells->V
open Ending renaming returned->K
open IntKind renaming i64->O
open Go renaming World->WD,Value->VL,Calls->CS
open Go.RowKit renaming Below->BW
open Go.Proofs.Tryz
section
open Go.RowKit Go.Maps Go.Lib
def Aor (s:ByteArray) (w:WD):CS prog 40 #[Y s] w λe w'=>e=K (.func (.func 75) #[] #[Q (Z ⟨w.heap.size,0,I⟩)])/\w'=w.alloc (V #[Y s] 9 (0,0)):=by
 go_enter func40,ntmps40;go_wp2;go_ret;exact⟨rfl,rfl⟩
def Bh:List ax->List (Int×ByteArray)->List ax×Int×Int
 | xs,[]=>(xs,0,0)
 | xs,(i,l)::ls=>
  match Iv l with
  | none=>(xs,50,i)
  | some v=>if Di (xs.map ax.name) xs.length v.name v.parts=0 then Bh (xs++[v]) ls else(xs,Di (xs.map ax.name) xs.length v.name v.parts,i)
def Ep (s:ByteArray):List ax×Int×Int:=if 4096<s.size then([],2,0)else Bh [] (Fu s)
def X9 (xs:List ax) (l m:List (Int×ByteArray)) (h:(Bh xs l).2.1=0):Bh xs (l++m)=Bh (Bh xs l).1 m:=by
 induction l generalizing xs with
 | nil=>rfl
 | cons x l ih=>
  obtain⟨i,b⟩:=x;show Bh xs ((i,b)::(l++m))=_;simp only[Bh]at h ⊢
  cases hn:Iv b with
  | none=>rw[hn]at h;simp at h
  | some v=>
   rw[hn]at h;simp only at h ⊢;by_cases c:Di (xs.map ax.name) xs.length v.name v.parts=0
   .rw [Ad c]at h ⊢;rw[Ad c];exact ih _ h
   .rw [Ac c]at h;exact absurd h c
end
section
open Go.RowKit Go.Maps Go.Shelf
variable{vs:List ax}{k:Nat}{row:Option Nat}{W w w':WD}
structure kq (W:WD) (fb mb base:Nat) (vs:List ax):Prop where
 ex:∃nv xs,j4 W fb mb base nv xs/\xs.map aq.pl=vs/\∀x,x∈xs->∀b off,x.po=Z ⟨b,off,I⟩->base<=b
def kq.below  {a b base:Nat}  (h:kq w a b base vs) (e:BW w.heap.size w w'):kq w' a b base vs:=by
 obtain⟨f,xs,h1,c,d⟩:=h.ex;exact⟨f,xs,h1.below e,c,d⟩
def Aos  {l n base:Nat} {r:VL} {xs:List aq}  (h:j4 w l n base r xs) (p:w.grownBy w' row) (t:row≠Z n)
  (u:∀x,x∈xs->∀b a,x.po=Z ⟨b,a,I⟩->base<=b) (d:∀(k:Nat) (c:Array VL) (T:TypeId) (fr:Nat×Nat),(k=l\/base<=k)->w.heap[k]?=Z (V c T fr)->w'.heap[k]?=Z (V c T fr)):j4 w' l n base r xs:=by
 refine⟨d _ _ _ _ (.inl rfl) h.head,⟨h.row.1,?_⟩,h.map.kept p (Qp t),λx i=>?_⟩
 .rcases h.row.2 with h|⟨g,cap,j,y,f,s,v⟩
  .exact .inl h
  .exact .inr ⟨g,cap,j,y,f,d _ _ _ _ (.inr f) s,v⟩
 .have q:∀b a,x.po=Z ⟨b,a,I⟩->∃c,w.heap[b]?=Z (V c 9 (0,0))/\w'.heap[b]?=Z (V c 9 (0,0)):=λb a e=>by
   obtain⟨c,o⟩:=(h.ok x i).2 b a e;exact⟨c,o,d _ _ _ _ (.inr (u x i b a e)) o⟩
  refine⟨⟨Pn (h.ok x i).1.parts p.size λb a e _=>?_,(h.ok x i).1.ni⟩,λb a e=>?_⟩
  .obtain ⟨c,h1,m⟩:=q b a e;rw[h1,m]
  .obtain ⟨c,_,m⟩:=q b a e;exact⟨c,m⟩
def Afr (xs:List ax) (l m:List (Int×ByteArray)) (h:(Bh xs l).2.1≠0):Bh xs (l++m)=Bh xs l:=by
 induction l generalizing xs with
 | nil=>exact absurd rfl h
 | cons x l ih=>
  obtain⟨i,b⟩:=x;show Bh xs ((i,b)::(l++m))=_;simp only[Bh]at h ⊢
  cases hn:Iv b with
  | none=>rfl
  | some v=>
   rw[hn]at h;simp only at h ⊢;by_cases c:Di (xs.map ax.name) xs.length v.name v.parts=0
   .rw [Ad c]at h ⊢;rw[Ad c];exact ih _ h
   .rw [Ac c,Ac c]
def Afs {xs:List ax} {i:Int} {l:ByteArray} (h:Iv l=I):Bh xs [(i,l)]=(xs,50,i):=by
 simp only[Bh,h]
def Aft {xs:List ax} {i:Int} {l:ByteArray} {v:ax} (h:Iv l=Z v) (a:Di (xs.map ax.name) xs.length v.name v.parts=0):Bh xs [(i,l)]=(xs++[v],0,0):=by
 simp only[Bh,h,Ad a]
def Afu {xs:List ax} {i:Int} {l:ByteArray} {v:ax} (h:Iv l=Z v) (a:Di (xs.map ax.name) xs.length v.name v.parts≠0):Bh xs [(i,l)]=(xs,Di (xs.map ax.name) xs.length v.name v.parts,i):=by
 simp only[Bh,h,Ac a]
structure qu (w:WD) (pre:List (Int×ByteArray)) (W:WD):Prop where
 fl:kq W (w.heap.size+4) (w.heap.size+3) (w.heap.size+7) (Bh [] pre).1
 ok:(Bh [] pre).2.1=0
 low:BW w.heap.size w W
 mx:Mx W
 c0:W.heap[w.heap.size]?=Z (V #[Q I] 23 (0,0))
 c1:W.heap[w.heap.size+1]?=Z (V #[G O 0] 24 (0,0))
 c2:W.heap[w.heap.size+2]?=Z (V #[G O 0] 3 (0,0))
 fx:W.heap[w.heap.size+5]?=Z (V #[Q (Z ⟨w.heap.size+4,0,I⟩)] 23 (0,0))
 sz:w.heap.size+7<=W.heap.size
structure ye (w:WD) (pre:List (Int×ByteArray)) (W:WD):Prop where
 low:BW w.heap.size w W
 bad:(Bh [] pre).2.1≠0
 c0:W.heap[w.heap.size]?=Z (V #[Q I] 23 (0,0))
 c1:W.heap[w.heap.size+1]?=Z (V #[G O (Bh [] pre).2.1] 24 (0,0))
 c2:W.heap[w.heap.size+2]?=Z (V #[G O (Bh [] pre).2.2] 3 (0,0))
 sz:w.heap.size+7<=W.heap.size
def yd (w W:WD) (row:Option Nat):Prop:=∀r,row=Z r->r=w.heap.size+6\/(w.heap.size+7<=r/\∃o:Obj,W.heap[r]?=Z o/\o.isCells=false)
def Po {w W a:WD}  (f:W.grownBy a row) (i:yd w W row)  {c:Array VL} {T:TypeId} {fr:Nat×Nat} (g:k≠w.heap.size+6) (h:W.heap[k]?=Z (V c T fr)):a.heap[k]?=Z (V c T fr):=
 (f.block k (Ab h) (λe=>by
  rcases i k e.symm with e|⟨_,o,b,d⟩
  .exact g e
  .rw [h]at b;cases b;simp[Obj.isCells]at d)).trans h
def Afv {w W a:WD}  (b:W.grownBy a row) (c:yd w W row) (h:BW w.heap.size w W):BW w.heap.size w a:=
 h.grown b h.size (λk e=>by rcases c k e with e|⟨e,_⟩<;>omega)
def qu.grown {w W f:WD} {d:List (Int×ByteArray)}  (h:qu w d W) (a:W.grownBy f row) (b:yd w W row):qu w d f:=by
 obtain⟨l,xs,h1,i,g⟩:=h.fl.ex;refine⟨⟨l,xs,Aos h1 a (λe=>?_) g (λk c T fr m j=>Po a b ao9 j),i,g⟩,h.ok,Afv a b h.low,?_,Po a b ao9 h.c0,Po a b ao9 h.c1,Po a b ao9 h.c2,Po a b ao9 h.fx,Ay h.sz a.size⟩
 .rcases b _ e with e|⟨e,_⟩<;>omega
 .refine h.mx.lu (a.block 0 h.mx.pos (λe=>?_));have:=h.sz
  rcases b _ e.symm with e|⟨e,_⟩<;>omega
def ye.grown {w W d:WD} {b:List (Int×ByteArray)}  (h:ye w b W) (a:W.grownBy d row) (c:yd w W row):ye w b d:=
 ⟨Afv a c h.low,h.bad,Po a c ao9 h.c0,Po a c ao9 h.c1,Po a c ao9 h.c2,Ay h.sz a.size⟩
def qu.below {w W c:WD} {b:List (Int×ByteArray)} (h:qu w b W) (a:BW W.heap.size W c):qu w b c:=
 ⟨h.fl.below a,h.ok,h.low.trans (a.mono h.low.size),h.mx.low a,Ae a h.c0 (Ab h.c0),Ae a h.c1 (Ab h.c1),Ae a h.c2 (Ab h.c2),Ae a h.fx (Ab h.fx),Ay h.sz a.size⟩
def J0.keeps {b f base j B:Nat} {W a:WD} (h:J0 b f base j W a) (l:b<B) (n:f<B) (i:W.heap.size<=a.heap.size):KeepsFrom B W a:=
 ⟨i,λk o m g d=>h.same k o g ao9 ao9 (.inr λc fr e=>by rw[e]at d;simp[Obj.isCells]at d)⟩
def J0.aw {b d base j k:Nat} {W a:WD} (h:J0 b d base j W a) (g:k<W.heap.size) (f:k≠b) (i:k≠d) (e:k<base):a.heap[k]?=W.heap[k]?:=by
 obtain⟨o,c⟩:∃o,W.heap[k]?=Z o:=⟨_,O6 g⟩;rw[c];exact h.same k o c i f (.inl e)
def Aot (n:Nat) (b:List (List UInt8)):∀x,x∈Du n b->∃p,p∈b/\x.2=au p:=by
 induction b generalizing n with
 | nil=>intro x a;simp[Du]at a
 | cons p b ih=>
  intro x a;simp only[Du]at a
  have c:x∈Du (n+1) b->∃q,q∈p :: b/\x.2=au q:=λh=>by
   obtain⟨q,h1,d⟩:=ih _ x h;exact⟨q,Df _ h1,d⟩
  split at a
  .rcases Ei.1 a with rfl|h
   .exact ⟨p,D6 ..,rfl⟩
   .exact c h
  .exact c a
def Aou {s:ByteArray} {x:Int×ByteArray} (h:x∈Fu s):x.2.size<=s.size:=by
 obtain⟨p,h1,a⟩:=Aot 0 _ x h;have:=Xz h1;rw[a,Fe,<-Km s];exact this
structure Afw (v:ax):Prop where
 name:Bp v.name=true
 parts:∀p,p∈v.parts->Bp p=true
 one:1<=v.parts.length
 cap:v.cap.right=true
def Uw {s:ByteArray} (h:Bp s=true):s.size<=16:=by
 simp only[Bp,Eh,In]at h;exact h.1.2
def Afx {s:ByteArray} {v:ax} (h:Iv s=Z v):Afw v:=by
 by_cases c:Jc s
 .rw [Xy c]at h;cases h;obtain⟨h1,b,d,a⟩:=c;refine⟨b,d,by simp;omega,?_⟩;show(E7 (ia s 1)).1.right=true;unfold E7 at a ⊢;split at a
  .next hl=>
   rw[Ad hl];unfold V4.told at a ⊢;split at a
   .next hr=>rw[Ad hr];exact hr
   .cases a
  .cases a
 .rw [Qt c]at h;cases h
def Aov {s:ByteArray} {v:ax} (h:Iv s=Z v):v.parts.length<=s.size+1:=by
 by_cases c:Jc s
 .rw [Xy c]at h;cases h;have:=Aba s;simp;omega
 .rw [Qt c]at h;cases h
def Afy (xs:List ax) (l:List (Int×ByteArray)) (h:(Bh xs l).2.1=0):(Bh xs l).2.2=0:=by
 induction l generalizing xs with
 | nil=>rfl
 | cons x l ih=>
  obtain⟨i,b⟩:=x;simp only[Bh]at h ⊢
  cases hn:Iv b with
  | none=>rw[hn]at h;simp at h
  | some v=>
   rw[hn]at h;simp only at h ⊢;by_cases c:Di (xs.map ax.name) xs.length v.name v.parts=0
   .rw [Ad c]at h ⊢;exact ih _ h
   .rw [Ac c]at h;exact absurd h c
structure S3 (R:Nat) (W W':WD) (p:VL) (e i:Int):Prop where
 size:W'.heap.size=W.heap.size
 c0:W'.heap[R]?=Z (V #[p] 23 (0,0))
 c1:W'.heap[R+1]?=Z (V #[G O e] 24 (0,0))
 c2:W'.heap[R+2]?=Z (V #[G O i] 3 (0,0))
 other:∀(k:Nat) (o:Obj),W.heap[k]?=Z o->k≠R->k≠R+1->k≠R+2->W'.heap[k]?=Z o
 low:∀w,BW R w W->BW R w W'
 back:∀(k:Nat),k≠R->k≠R+1->k≠R+2->W'.heap[k]?=W.heap[k]?
def Ez  {b o k:Nat} {v:VL} (h:k≠b):(W.setCell ⟨b,o,I⟩ v).heap[k]?=W.heap[k]?:=Cm _ _ _ _ h
def Abh {R:Nat}  {a b c:VL} (h0:W.heap[R]?=Z (V #[a] 23 (0,0))) (h1:W.heap[R+1]?=Z (V #[b] 24 (0,0))) (l:W.heap[R+2]?=Z (V #[c] 3 (0,0))) (p:VL) (e i:Int) :
  S3 R W (((W.setCell ⟨R,0,I⟩ p).setCell ⟨R+1,0,I⟩ (G O e)).setCell ⟨R+2,0,I⟩ (G O i)) p e i:=by
 have d:∀(k:Nat),k≠R->k≠R+1->k≠R+2->(((W.setCell ⟨R,0,I⟩ p).setCell ⟨R+1,0,I⟩ (G O e)).setCell ⟨R+2,0,I⟩ (G O i)).heap[k]?=W.heap[k]?:=λk f g j=>
  (Ez j).trans ((Ez g).trans (Ez f))
 refine⟨by simp[World.setCell],?_,?_,?_,λk o m f g j=>(d k f g j).trans m,λw h=>((h.setCell Ln _).setCell (D8 _) _).setCell (Nat.le_add_right _ _) _,d⟩
 .rw [Ez ao9,Ez ao9,Am h0];rfl
 .rw [Ez ao9,Am (c:=#[b]) (T:=24) (fr:=(0,0)) ((Ez ao9).trans h1)];rfl
 .rw [Am (c:=#[c]) (T:=3) (fr:=(0,0)) ((Ez ao9).trans ((Ez ao9).trans l))];rfl
def kq.other {W l:WD} {p s base:Nat}  (h:kq W p s base vs) (r:W.heap.size<=l.heap.size) (d:∀(k:Nat) (o:Obj),W.heap[k]?=Z o->k=p\/k=s\/(base<=k/\o.isCells=true)->l.heap[k]?=Z o):kq l p s base vs:=by
 obtain⟨nv,xs,h1,i,t⟩:=h.ex;refine⟨nv,xs,⟨d _ _ h1.head (.inl rfl),⟨h1.row.1,?_⟩,?_,λx m=>?_⟩,i,t⟩
 .rcases h1.row.2 with h|⟨g,cap,n,hv,j,hh,q⟩
  .exact .inl h
  .exact .inr ⟨g,cap,n,hv,j,d _ _ hh (.inr (.inr ⟨j,rfl⟩)),q⟩
 .obtain ⟨y,f,z,q⟩:=h1.map;exact⟨y,f,d _ _ z (.inr (.inl rfl)),q⟩
 .have v:∀b a,x.po=Z ⟨b,a,I⟩->∃c,W.heap[b]?=Z (V c 9 (0,0))/\l.heap[b]?=Z (V c 9 (0,0)):=λb a e=>by
   obtain⟨c,u⟩:=(h1.ok x m).2 b a e;exact⟨c,u,d _ _ u (.inr (.inr ⟨t x m b a e,rfl⟩))⟩
  refine⟨⟨Pn (h1.ok x m).1.parts r λb a e _=>?_,(h1.ok x m).1.ni⟩,λb a e=>?_⟩
  .obtain ⟨c,h1,i⟩:=v b a e;rw[h1,i]
  .obtain ⟨c,_,i⟩:=v b a e;exact⟨c,i⟩
def Aow {w p n:WD} {d:List (Int×ByteArray)} {i:Int} {u:ByteArray} {j:VL} {xs:List aq} {x:aq} (e:qu w d p) (q:xs.map aq.pl=(Bh [] d).1)
  (h3:∀y,y∈xs->∀b f,y.po=Z ⟨b,f,I⟩->w.heap.size+7<=b) (hs:Iv u=Z x.pl) (t:∀b f,x.po=Z ⟨b,f,I⟩->w.heap.size+7<=b)
  (v:Di (xs.map aq.name) xs.length x.name x.parts=0) (hF:j4 n (w.heap.size+4) (w.heap.size+3) (w.heap.size+7) j (xs++[x]))
  (l:J0 (w.heap.size+4) (w.heap.size+3) (w.heap.size+7) w.heap.size p n) (g:0<w.heap.size):qu w (d++[(i,u)]) n:=by
 have ac:=e.sz;have h4:=l.low.size;have s:xs.map aq.name=(Bh [] d).1.map ax.name:=by rw[<-q,Dg];rfl
 have r:xs.length=(Bh [] d).1.length:=by rw[<-q,Ar]
 have z:Bh [] (d++[(i,u)])=((Bh [] d).1++[x.pl],0,0):=by rw[X9 _ _ _ e.ok,Aft hs];rw[s,r]at v;exact v
 have m:∀ {k:Nat} {o:Obj},p.heap[k]?=Z o->k≠w.heap.size+4->k≠w.heap.size+3->k<w.heap.size+7->n.heap[k]?=Z o:=λhk a b c=>l.same _ _ hk b a (.inl c);refine⟨⟨j,xs++[x],hF,by rw[z,C2,q];rfl,λy hy=>?_⟩,by rw[z],e.low.trans l.low,?_,m e.c0 ao9 ao9 ao9,m e.c1 ao9 ao9 ao9,m e.c2 ao9 ao9 ao9,m e.fx ao9 ao9 ao9,ao9⟩
 .rcases C4.1 hy with h|h
  .exact h3 y h
  .have:y=x:=by simpa using h
   subst this;exact t
 .exact e.mx.lu (l.low.block 0 g)
def Aox {w e d:WD} {i:List (Int×ByteArray)} (f:qu w i e)
  (g:J0 (w.heap.size+4) (w.heap.size+3) (w.heap.size+7) w.heap.size e d) :
  d.heap[w.heap.size]?=Z (V #[Q I] 23 (0,0))/\d.heap[w.heap.size+1]?=Z (V #[G O 0] 24 (0,0))/\d.heap[w.heap.size+2]?=Z (V #[G O 0] 3 (0,0))/\BW w.heap.size w d/\e.heap.size<=d.heap.size:=by
 have h:∀ {k:Nat} {o:Obj},e.heap[k]?=Z o->k≠w.heap.size+4->k≠w.heap.size+3->k<w.heap.size+7->d.heap[k]?=Z o:=λj a b c=>g.same _ _ j b a (.inl c);exact⟨h f.c0 ao9 ao9 ao9,h f.c1 ao9 ao9 ao9,h f.c2 ao9 ao9 ao9,f.low.trans g.low,g.low.size⟩
attribute [local go_sem] Oper.semAt_some
def qj (w:WD) (s:ByteArray):WD:=
 ((((((w.alloc (V #[Q I] 23 (0,0))).alloc (V #[G O 0] 24 (0,0))).alloc (V #[G O 0] 3 (0,0))).alloc (.map #[] 0)).alloc (V #[J I 0 0,.map (Z (w.heap.size+3))] 101 (0,0))).alloc (V #[Q (Z ⟨w.heap.size+4,0,I⟩)] 23 (0,0))).alloc (V #[Y s] 9 (0,0))
def Afz (w:WD) (s:ByteArray):(qj w s).heap.size=w.heap.size+7:=by simp[qj]
def Af0 (w:WD) (s:ByteArray):BW w.heap.size w (qj w s):=
 (((((Bn.alloc as9 _).alloc (by simp;omega) _).alloc (by simp;omega) _).alloc (by simp;omega) _).alloc (by simp;omega) _).alloc (by simp;omega) _
def Ao0 (w:WD) (s:ByteArray):(qj w s).heap[w.heap.size+6]?=Z (V #[Y s] 9 (0,0)):=by
 unfold qj;exact A5 _ _ as9
def Ao1 (w:WD) (s:ByteArray) (b:Mx w):qu w [] (qj w s):=by
 refine⟨⟨J I 0 0,[],⟨?_,⟨rfl,.inl ⟨rfl,rfl⟩⟩,?_,λx a=>by cases a⟩,rfl,λx a=>by cases a⟩,rfl,Af0 w s,b.low (Af0 w s),?_,?_,?_,?_,by rw[Afz];exact Nat.le_refl _⟩
 .unfold qj;exact Aj _ (Aj _ (A5 _ _ as9))
 .have h0:=Aan ((((w.alloc (V #[Q I] 23 (0,0))).alloc (V #[G O 0] 24 (0,0))).alloc (V #[G O 0] 3 (0,0)))) prog 9 (plainElem (H:=Unit) prog 3);have h1:=((h0.alloc (V #[J I 0 0,.map (Z (w.heap.size+3))] 101 (0,0))).alloc (V #[Q (Z ⟨w.heap.size+4,0,I⟩)] 23 (0,0))).alloc (V #[Y s] 9 (0,0));simp only[G9]at h1;exact h1
 .unfold qj;exact Aj _ (Aj _ (Aj _ (Aj _ (Aj _ (Aj _ (Ah _ _))))))
 .unfold qj;exact Aj _ (Aj _ (Aj _ (Aj _ (Aj _ (A5 _ _ as9)))))
 .unfold qj;exact Aj _ (Aj _ (Aj _ (Aj _ (A5 _ _ as9))))
 .unfold qj;exact Aj _ (A5 _ _ as9)
def Abi (s:ByteArray) (w:WD) (e:Ending) (w':WD):Prop:=
 ∃p,e=K (E #[.pointer p,G O (Ep s).2.1,G O (Ep s).2.2])/\BW w.heap.size w w' /\
  (((Ep s).2.1≠0/\p=I)\/((Ep s).2.1=0/\p=Z ⟨w.heap.size+4,0,I⟩/\kq w' (w.heap.size+4) (w.heap.size+3) (w.heap.size+7) (Ep s).1))
def Ao2 (s:ByteArray) (w:WD) (b:4096<s.size):CS prog 13 #[Y s] w (Abi s w):=by
 have a:Ep s=([],2,0):=Ad b;have c:decide ((4096:Int)<s.size)=true:=At ao9;replace a:=Hh a;go_enter func13,ntmps13;go_wp2;refine Ak (v:=E #[Q I,G O 2,G O 0]) (by simp[results,results13,go_sem]) rfl ?_;refine⟨I,by rw[a.out],?_,.inl ⟨by rw[a.out];decide,rfl⟩⟩;exact(Bn.alloc as9 _).alloc (by simp;omega) _
def Ao3 (s:ByteArray) (w:WD) (hm:Mx w) (hs:¬4096<s.size):CS prog 13 #[Y s] w (Abi s w):=by
 have hr:Ep s=Bh [] (Fu s):=Ac hs;have a2:=@run_makeMap prog;have d1:decide ((4096:Int)<s.size)=false:=Au ao9;have aJ:=hm;replace⟨hr,aJ,hm⟩:=H3 hr aJ hm;refine(K6 (n:=8)).1 ?_;refine callsIn_of_wp_marks func13 rfl trivial ?_ rfl;simp only[ntmps13,Ui,D7,Ir,Nat.reduceAdd,Nat.reduceSub,Aai,Aaj,Aar,Aal,Ph,Pf]
 gi_wp2_with fail
 refine⟨trivial,(K6.2 (Aor s _)).mono ?_⟩;rintro e w1 ⟨rfl,a6⟩
 gi_wp2_with fail
 subst a6;clear a2;change Code.wpIn _ _ _ _ _ { tmps:=#[Y s,undef,Q (Z ⟨w.heap.size,0,I⟩),Q (Z ⟨w.heap.size+1,0,I⟩),Q (Z ⟨w.heap.size+2,0,I⟩),Q (Z ⟨w.heap.size+5,0,I⟩),undef,undef,undef,undef,Y s,G O s.size,D false,.map (Z (w.heap.size+3)),.agg #[J I 0 0,.map (Z (w.heap.size+3))],Q (Z ⟨w.heap.size+4,0,I⟩),Y s,.func (.func 75) #[] #[Q (Z ⟨w.heap.size+6,0,I⟩)],undef,undef,undef,undef,undef,undef,undef,undef,undef,undef,undef,undef,undef,undef,undef,undef,undef],defers:=[] } (qj w s);have hS:=Ao1 w s aJ.out;have aW:=Afz w s;have aH:=Ao0 w s;have aK:=hS.mx;have aO:=aJ.pos;generalize qj w s=W1 at hS aW aH aK ⊢;replace⟨hS,aH,aK⟩:=H3 hS aH aK;refine Aon rfl ao9 (gf:=75) (lb:=#[Q (Z ⟨w.heap.size+6,0,I⟩)]) rfl trivial (enters_of func75 (by kernel_rfl) rfl)
  (Aoq 7 ao9 (w.heap.size+6) s W1 ao9 aH.out aK.out ao9) ao9 ao9 (Below.refl _ _) (λ_=>rfl)
  (qu w) (λc j W=>c=.ret/\ye w j W) ?hI ?hIx ?hIb ?hIxb hS.out
  (λx=>{ tmps:=#[Y s,undef,Q (Z ⟨w.heap.size,0,I⟩),Q (Z ⟨w.heap.size+1,0,I⟩),Q (Z ⟨w.heap.size+2,0,I⟩),Q (Z ⟨w.heap.size+5,0,I⟩),G O x.1,Y x.2,undef,undef,Y s,G O s.size,D false,.map (Z (w.heap.size+3)),.agg #[J I 0 0,.map (Z (w.heap.size+3))],Q (Z ⟨w.heap.size+4,0,I⟩),Y s,.func (.func 75) #[] #[Q (Z ⟨w.heap.size+6,0,I⟩)],G O x.1,Y x.2,undef,undef,undef,undef,undef,undef,undef,undef,undef,undef,undef,undef,undef,undef,undef],defers:=[] }) ?assign ?body ?done ?stop
 case hI=>
  intro j A B row h hg aV;exact h.grown hg λr e=>.inr (by rw[<-aW];exact aV r e)
 case hIx=>
  rintro c j A B row ⟨rfl,h⟩ hg aV;exact⟨rfl,h.grown hg λr e=>.inr (by rw[<-aW];exact aV r e)⟩
 case hIb=>
  intro j A B h hg;exact h.grown hg λr e=>.inl (by cases e;rfl)
 case hIxb=>
  rintro c j A B ⟨rfl,h⟩ hg;exact⟨rfl,h.grown hg λr e=>.inl (by cases e;rfl)⟩
 case assign=>
  intro l x W K9q t
  gi_wp2
  exact t
 case body=>
  rintro l j ⟨i,ln⟩ W hI v;have av:(i,ln)∈Fu s:=v.subset as9;have aI:=Aou av;have ad:=Aoh ln W hI.mx (by have:ln.size<=s.size:=aI;omega);replace⟨hI,v,av,aI,ad⟩:=H5 hI v av aI ad
  gi_wp2_with fail
  refine⟨trivial,((K6.2 ad.out).inRound l).mono ?_⟩;rintro e w2 ⟨x,r,rfl,aA,f,ap,aQ⟩;have d:=hI.below f;have c0:=Aa d.c0 0;have c1:=Aa d.c1 0;have c2:=Aa d.c2 0;have c5:=Aa d.fx 0;have f0:=Af d.c0 0;have f1:=Af d.c1 0;have f2:=Af d.c2 0;have l0:=Ab d.c0;have l1:=Ab d.c1;have l2:=Ab d.c2;have l5:=Ab d.fx;simp at c0 c1 c2 c5;rcases aQ with⟨af,rfl,rfl⟩|⟨q,rfl⟩
  .have a:=Abh d.c0 d.c1 d.c2 (Q I) 50 i;have y:Bh [] (j++[(i,ln)])=((Bh [] j).1,50,i):=(by rw[X9 _ _ _ hI.ok,Afs af]);have a7:=d.sz;replace⟨d,aA,f,ap,af,a,y⟩:=H7 d aA f ap af a y
   gi_wp2
   refine⟨?_,rfl,?_⟩
   .refine ⟨?_,λk o hk hh ho=>Aj _ (a.other k o (Ae f.out hh (Ab hh)) ao9 ao9 ao9)⟩;have:=a.size;have:=f.size;rw[G9];omega
   .refine ⟨(a.low _ d.low).alloc (a.low _ d.low).size _,by rw[y.out];show(50:Int)≠0;decide,Aj _ a.c0,by rw[y.out];exact Aj _ a.c1,by rw[y.out];exact Aj _ a.c2,?_⟩;have:=a.size;rw[G9];omega
  .have aR:=Afx q;have aT:=Aov q;have aS:=Uw aR.name;obtain⟨W3,aG⟩:=Ex (w2.alloc (V x.cells 69 (0,0)));have g:BW w2.heap.size w2 W3:=(by rw[aG];exact Bn);have ao:=d.below g;have al:=aA.low g
   have aB:La W3 x:=λb aX e=>by
    obtain⟨_,c,hc⟩:=ap b aX e;exact⟨c,Ae g hc (Ab hc)⟩
   obtain⟨nv,xs,h1,h2,h3⟩:=ao.fl.ex;have aC:=λb aX e=>Ay hI.sz (ap b aX e).1;have aU:x.pn<=4294967296:=(by have e1:=al.parts.len;have e2:x.parts.length<=ln.size+1:=aT;have:ln.size<=s.size:=aI.out;omega);have z:=Aom W3 (w.heap.size+4) (w.heap.size+3) (w.heap.size+7) w.heap.size nv xs x h1 al aB (by have:maxLen=9223372036854775807:=rfl;have:x.name.size<=16:=aS;omega) aU ao9 ao9 ao9 ao.sz;obtain⟨E9q,hE⟩:=Ex (Di (xs.map aq.name) xs.length x.name x.parts);rw[<-hE]at z;have aL:xs.map aq.name=(Bh [] j).1.map ax.name:=(by rw[<-h2,Dg];rfl);have aN:xs.length=(Bh [] j).1.length:=(by rw[<-h2,Ar]);obtain⟨nm,⟨ca,cb,cc,cd⟩,po,pn,pc,ps⟩:=x;rw[aG]at z;replace⟨d,aA,f,ap,q,aR,aT,aS⟩:=H8 d aA f ap q aR aT aS;replace⟨g,ao,al,aB,h1,h2,h3,aC⟩:=H8 g ao al aB h1 h2 h3 aC;replace⟨aU,z,hE,aL,aN⟩:=H5 aU z hE aL aN;have aY:=Hh aG;clear aG
   gi_wp2_with fail
   refine⟨trivial,((K6.2 z.out).inRound l).mono ?_⟩;rintro e w4 ⟨a8,rfl,an,t⟩;rw[<-aY.out]at t;have a4:=Aox ao.out t;obtain⟨q0,q1,q2,u,p⟩:=a4;clear c0 c1 c2 c5 f0 f1 f2 l0 l1 l2 l5;by_cases am:E9q=0
   .subst am;rw[Ad rfl]at an;have aP:qu w (j++[(i,ln)]) w4:=Aow ao.out h2.out h3.out q.out aC.out hE.symm an t aO;replace⟨an,t,q0,q1,q2,u,p,aP⟩:=H8 an t q0 q1 q2 u p aP
    gi_wp2
    have aD:=Ay f.size g.size;have aE:=λk hk=>(g.block k (By hk f.size)).trans (f.block k hk);have a5:=hI.sz;refine⟨⟨Ay aD p.out,λk o hk hh ho=>?_⟩,⟨?_,?_⟩,aP.out⟩
    .exact (t.keeps (B:=W1.heap.size) ao9 ao9 p.out).same k o hk ((aE k (Ab hh)).trans hh) ho
    .exact (t.aw ao9 ao9 ao9 ao9).trans (aE _ ao9)
    .exact (t.low.block 0 aO).trans (aE _ ao9)
   .have y:Bh [] (j++[(i,ln)])=((Bh [] j).1,E9q,i):=by
     rw[X9 _ _ _ hI.ok,Afu q.out]
     .rw [<-aL.out,<-aN.out];rw[hE.out];rfl
     .rw [<-aL.out,<-aN.out];exact λc=>am (hE.trans c)
    have a:=Abh q0 q1 q2 (Q I) E9q i;have c0:=Aa q0 0;have c1:=Aa q1 0;have c2:=Aa q2 0;have f0:=Af q0 0;have f1:=Af q1 0;have f2:=Af q2 0;simp at c0 c1 c2;have dE:(E9q != 0)=true:=(by simpa using am);replace⟨an,t,q0,q1,q2,u,p,am⟩:=H8 an t q0 q1 q2 u p am;replace⟨y,a⟩:=H2 y a
    gi_wp2
    have aD:=Ay f.size g.size;have aE:=λk hk=>(g.block k (By hk f.size)).trans (f.block k hk);have a5:=hI.sz;refine⟨⟨by rw[a.size];exact Ay aD p.out,λk o hk hh ho=>?_⟩,rfl,a.low _ u.out,by rw[y.out];exact am.out,a.c0,by rw[y.out];exact a.c1,by rw[y.out];exact a.c2,by rw[a.size];have:=p.out;omega⟩;exact a.other k o ((t.keeps (B:=W1.heap.size) ao9 ao9 p.out).same k o hk ((aE k (Ab hh)).trans hh) ho) ao9 ao9 ao9
 case done=>
  intro D0 W hD hI t;have c0:=Aa hI.c0 0;have c1:=Aa hI.c1 0;have c2:=Aa hI.c2 0;have c5:=Aa hI.fx 0;have f0:=Af hI.c0 0;have f1:=Af hI.c1 0;have f2:=Af hI.c2 0;simp at c0 c1 c2 c5;have a:=Abh hI.c0 hI.c1 hI.c2 (Q (Z ⟨w.heap.size+4,0,I⟩)) 0 0;have hz:=Afy [] (Fu s) hI.ok;have aZ:=Ab t;have aF:=a.other D0 _ t ao9 ao9 ao9;replace⟨hI,t,a,hz,aF⟩:=H5 hI t a hz aF
  gi_wp2
  refine⟨as9,.inl ⟨_,_,rfl,run_takeDeferred aF.out,?_⟩⟩;obtain⟨W5,a1⟩:=Ex ((((W.setCell ⟨w.heap.size,0,I⟩ (Q (Z ⟨w.heap.size+4,0,I⟩))).setCell ⟨w.heap.size+1,0,I⟩ (G O 0)).setCell ⟨w.heap.size+2,0,I⟩ (G O 0)));have ac:=a.out;have a0:=aF.out;rw[<-a1]at ac a0 ⊢;have g0:=Aa ((World.putObj_heap_other (o:=.deferred I) (show w.heap.size≠D0 by omega)).trans ac.c0) 0;have g1:=Aa ((World.putObj_heap_other (o:=.deferred I) (show w.heap.size+1≠D0 by omega)).trans ac.c1) 0;have g2:=Aa ((World.putObj_heap_other (o:=.deferred I) (show w.heap.size+2≠D0 by omega)).trans ac.c2) 0;simp at g0 g1 g2;refine⟨E #[Q (Z ⟨w.heap.size+4,0,I⟩),G O 0,G O 0],by simp[results,results13,go_sem,g0,g1,g2],Z ⟨w.heap.size+4,0,I⟩,by rw[hr.out,hI.ok,hz.out],?_,.inr ⟨by rw[hr.out];exact hI.ok,rfl,?_⟩⟩
  .exact (ac.low _ hI.low).grown (grownBy_putObj' _ D0 _) (ac.low _ hI.low).size (λk e=>by cases e;omega)
  .rw [hr.out];refine hI.fl.other (by have:=ac.size;simp[World.putObj];omega) λk o hk hc=>?_
   have a3:k≠D0:=λe=>by
    subst e;rw[t.out]at hk;cases hk;rcases hc with e|e|⟨_,e⟩
    .omega
    .omega
    .simp [Obj.isCells]at e
   exact(World.putObj_heap_other a3).trans (ac.other k o hk ao9 ao9 ao9)
 case stop=>
  rintro D0 c j ⟨i,ln⟩ W hD v ⟨rfl,hX⟩ t;have aZ:=Ab t;have aM:Bh [] (Fu s)=Bh [] (j++[(i,ln)]):=by obtain⟨m,hm⟩:=v;rw[<-hm,Afr _ _ _ hX.bad]
  replace⟨hX,t,aM,v⟩:=H4 hX t aM v
  gi_wp2
  refine⟨as9,.inl ⟨_,_,rfl,run_takeDeferred t.out,?_⟩⟩;have g0:=Aa ((World.putObj_heap_other (o:=.deferred I) (show w.heap.size≠D0 by omega)).trans hX.c0) 0;have g1:=Aa ((World.putObj_heap_other (o:=.deferred I) (show w.heap.size+1≠D0 by omega)).trans hX.c1) 0;have g2:=Aa ((World.putObj_heap_other (o:=.deferred I) (show w.heap.size+2≠D0 by omega)).trans hX.c2) 0;simp at g0 g1 g2;refine⟨E #[Q I,G O (Bh [] (j++[(i,ln)])).2.1,G O (Bh [] (j++[(i,ln)])).2.2],by simp[results,results13,go_sem,g0,g1,g2],I,by rw[hr.out,aM.out],?_,.inl ⟨by rw[hr.out,aM.out];exact hX.bad,rfl⟩⟩;exact hX.low.grown (grownBy_putObj' _ D0 _) hX.low.size (λk e=>by cases e;omega)
def Af1 (s:ByteArray) (w:WD) (b:Mx w):CS prog 13 #[Y s] w (Abi s w):=by
 by_cases a:4096<s.size
 .exact Ao2 s w a
 .exact Ao3 s w b a
def Jd:Nat->List ax->ByteArray->List Int
 | _,[],_=>[]
 | k,v :: vs,p=>if Gq v.parts p=true then(k:Int)::Jd (k+1) vs p else Jd (k+1) vs p
def C6 (vs:List ax) (p:ByteArray):List Int:=Jd 0 vs p
def Ao4 (a b:List ax) (p:ByteArray) (k:Nat):Jd k (a++b) p=Jd k a p++Jd (k+a.length) b p:=by
 induction a generalizing k with
 | nil=>simp[Jd]
 | cons v a ih=>
  simp only[Pf,Jd,D7];rw[ih,show k+1+a.length=k+(a.length+1) by omega]
  split<;>simp
def Je {α:Type} {l:List α}  {x:α} (h:l[k]?=Z x):l.take (k+1)=l.take k++[x]:=by
 rw[L7,h];rfl
def Af2   {v:ax} (p:ByteArray) (h:vs[k]?=Z v):C6 (vs.take (k+1)) p=C6 (vs.take k) p++(if Gq v.parts p=true then[(k:Int)]else[]):=by
 have a:=(Aq.1 h).1;unfold C6;rw[Je h,Ao4,Dt,L9 ao9,Cn];simp only[Jd]
def Ao5   {v:ax} {p:ByteArray} (h:vs[k]?=Z v) (a:Gq v.parts p=true):C6 (vs.take (k+1)) p=C6 (vs.take k) p++[(k:Int)]:=by
 rw[Af2 p h,Ad a]
def Ao6   {v:ax} {p:ByteArray} (h:vs[k]?=Z v) (a:Gq v.parts p=false):C6 (vs.take (k+1)) p=C6 (vs.take k) p:=by
 rw[Af2 p h,Ac (by rw[a];simp),Nf]
def Af3 (vs:List ax) (p:ByteArray) (k:Nat):(Jd k vs p).length<=vs.length:=by
 induction vs generalizing k with
 | nil=>simp[Jd]
 | cons v vs ih=>
  have:=ih (k+1);simp only[Jd]
  split<;>simp<;>omega
def Ao7 (vs:List ax) (p:ByteArray):(C6 vs p).length<=vs.length:=Af3 vs p 0
def Ya (a b:V4):V4:=⟨a.a+b.a,a.b+b.b,a.c+b.c,a.d+b.d⟩
def Ol (v:ax) (p:ByteArray):Bool:=p.toList.isEmpty || Gq v.parts p
def Ea (vs:List ax) (p:ByteArray):V4:=vs.foldl (λa v=>if Ol v p=true then Ya a v.cap else a) V4.zero
structure Ux (v:V4):Prop where
 a0:0<=v.a
 a1:v.a<=1073741824
 b0:0<=v.b
 b1:v.b<=1073741824
 c0:0<=v.c
 c1:v.c<=1073741824
 d0:0<=v.d
 d1:v.d<=1073741824
structure Ao8 (v:V4) (n:Nat):Prop where
 a0:0<=v.a
 a1:v.a<=1073741824*n
 b0:0<=v.b
 b1:v.b<=1073741824*n
 c0:0<=v.c
 c1:v.c<=1073741824*n
 d0:0<=v.d
 d1:v.d<=1073741824*n
def Apa (l:List ByteArray) (x:ByteArray):Lib.containsS l x=Gq l x:=by
 rw[Oe,Lib.containsS_iff,Ok]
def Af4 (w:WD) (po:Option Addr) (pn pc:Nat) (a:List ByteArray) (s:ByteArray) (h:D9 w po pn a):CS prog 209 #[J po pn pc,Y s] w λe w'=>e=K (D (Gq a s))/\w'=w:=by
 have i:=h.len;have l:=h.max;by_cases h0:pn=0
 .subst h0;have:a=[]:=Gb.1 i;subst this;exact Tryz.slices_Contains_string_empty po pc s w
 .obtain ⟨b,d,rfl,k,_⟩:=h.cell 0 (a[0]'(by omega)) as9;refine(Tryz.slices_Contains_string b d pn pc a s w ao9 l λj c=>?_).mono ?_
  .obtain ⟨m,f,e,_,g⟩:=h.cell j (a[j]'c) (by simp[c]);cases e;rw[g];simp[List.getD,c]
  .rintro e w' ⟨rfl,rfl⟩;rw[Cr ao9,Apa];exact⟨rfl,rfl⟩
def Bu (xs:List Int):List VL:=xs.map λn=>G O n
structure Al (w:WD) (B:Nat) (v:VL) (xs:List Int):Prop where
 row:w.ownsRow B 3 1 v xs.length (Bu xs)
def Af5 (vs:List ax) (p:ByteArray) (w:WD) (e:Ending) (w':WD):Prop:=∃v,e=K v/\Al w' w.heap.size v (C6 vs p)/\BW w.heap.size w w'
def Md:(prog.info? 3).map (λi=>(i.zero,i.size,i.bytes))=Z (Z (G O 0),1,8):=by kernel_rfl
def Yb (w:WD) (n:Int):∀j u,([G O n]:List VL)[j]?=Z u->(w.alloc (V #[G O n] 3 (0,0))).cell? ((⟨w.heap.size,0,I⟩:Addr).add j)=Z u:=by
 intro j u a
 match j,a with
 | 0,a=>
  have:=Aa (Ah w (V #[G O n] 3 (0,0))) 0;simp at a;subst a;exact this
 | j+1,a=>simp at a
def Abk {xs:List aq}  {x:aq} (h:xs[k]?=Z x):(xs.map aq.pl)[k]?=Z x.pl:=by rw[Bg,h];rfl
def Apb (w:WD) (fb mb base:Nat) (nv:VL) (xs:List aq) (p:ByteArray) (hF:j4 w fb mb base nv xs) (af:xs.length<=4096):CS prog 154 #[Q (Z ⟨fb,0,I⟩),Y p] w (Af5 (xs.map aq.pl) p w):=by
 obtain⟨i3,ao,ap,al,am⟩:=B4 Md;obtain⟨n,hn⟩:=Ex (xs.length);have q:=Abj w fb mb base nv xs hF;rw[<-hn]at q af;replace⟨hF,hn,q⟩:=H3 hF hn q;go_enter func154,ntmps154;go_wp2_with fail;refine q.mono ?_;rintro e w1 ⟨rfl,rfl⟩;go_wp2;go_loopw [5,9] (λov i wr=>∃k:Nat,i=G O k/\k<=n/\Hid (Al wr w1.heap.size ov (C6 ((xs.map aq.pl).take k) p))/\Hid (BW w1.heap.size w1 wr)) (λ_ i _=>n-(intOf i).toNat)
 case atStart=>exact⟨0,rfl,As _,⟨rfl,.inl ⟨rfl,rfl⟩⟩,Below.refl _ _⟩
 case round=>
  obtain⟨k,rfl,hk,hO,hB⟩:=hrel;by_cases hc:k<n
  .have an:(k:Int)<n:=ao9;have aA:(0:Int)<=(k:Int):=ao9;have m:=hF.below hB.out;obtain⟨g,cap,rfl⟩:=Joins.ownsRow_form m.row (by have:=hn.out;omega);obtain⟨x,hx⟩:=Ge xs k (by have:=hn.out;omega);obtain⟨g',e1,_,_,c⟩:=m.cell hx;have e2:g=g':=(by simpa[Value.ownBlock]using e1);subst e2;have c5:wr.cell? ⟨g,k*6+5,I⟩=Z (J x.po x.pn x.pc):=c 5 ao9;have f0:=Aa m.head 0;simp at f0;rw[<-hn.out]at f0;have o:=Af4 wr x.po x.pn x.pc x.parts p (m.ok x (Ai hx)).1.parts;obtain⟨b,hb⟩:=Ex (Gq x.parts p);rw[<-hb]at o;have r:=Abk hx;replace⟨m,hx,o,hb,r,c,e1⟩:=H7 m hx o hb r c e1
   cases b with
   | false=>
    have v:Al wr w1.heap.size u5 (C6 ((xs.map aq.pl).take (k+1)) p):=(by rw[Ao6 r.out hb.symm];exact hO.out);replace v:=Hh v;go_wp2_with fail
    (with_reducible refine o.out.mono ?_)
    rintro e wr ⟨rfl,rfl⟩;go_wp2;go_roundw
    case rel=>exact⟨k+1,by go_num,ao9,v.out,hB.out⟩
    case measure=>simp[intOf];omega
   | true=>
    obtain⟨L,hL⟩:=Ex ((C6 ((xs.map aq.pl).take k) p).length);have av:L<=k:=(by rw[hL];refine Ay (Ao7 _ _) ?_;rw[Dt];omega);have j:(wr.alloc (V #[G O (k:Int)] 3 (0,0))).ownsRow w1.heap.size 3 1 u5 L (Bu (C6 ((xs.map aq.pl).take k) p)):=(by rw[hL];exact hO.row.alloc (V #[G O (k:Int)] 3 (0,0)));have f:=Yb wr (k:Int);have h:∀u∈([G O (k:Int)]:List VL),u.oneCell'=true:=(by simp[Value.oneCell']);have s:=Ff (n:=L) ao9;have z:(L+1)*8<=140737488355328:=ao9;have l:w1.heap.size<=(wr.alloc (V #[G O (k:Int)] 3 (0,0))).heap.size:=(by have:=hB.size;simp;omega);replace⟨hL,j,f,h,s,z,l⟩:=H7 hL j f h s z l;go_wp2_with fail
    (with_reducible refine o.out.mono ?_)
    rintro e wr ⟨rfl,rfl⟩;go_wp2_with (at_builtin;refine I7 _ rfl _ _ 31 rfl w1.heap.size 3 i3 _ 1 8 M9 ao ap al am rfl ad9 _ L _ rfl j.out ⟨wr.heap.size,0,I⟩ 1 1 [G O (k:Int)] rfl rfl f.out h.out s.out z.out l.out ?_;intro v1 w7 a d _;obtain⟨g7,ad,rfl⟩:=Joins.ownsRow_form a ao9;replace⟨a,d⟩:=H2 a d);have y:Al w7 w1.heap.size (J (Z ⟨g7,0,I⟩) (L+1) ad) (C6 ((xs.map aq.pl).take (k+1)) p):=(by rw[Ao5 r.out hb.symm];refine⟨?_⟩;rw[Az,<-hL.out];simpa[Bu]using a.out);have t:=(hB.alloc hB.size _).grown d.out l.out (λk hk=>(hO.row.lt k hk).1);replace⟨y,t⟩:=H2 y t;go_roundw
    case rel=>exact⟨k+1,by go_num,ao9,y.out,t.out⟩
    case measure=>simp[intOf];omega
  .have an:¬(k:Int)<n:=ao9;have ac:(xs.map aq.pl).take k=xs.map aq.pl:=Cr (by rw[Ar];have:=hn.out;omega);replace ac:=Hh ac;go_wp2;go_ret;exact⟨u5,rfl,by have:=hO.out;rw[ac.out]at this;exact this,hB.out⟩
structure jk (w:WD) (v:V4) (W:WD):Prop where
 low:BW w.heap.size w W
 r0:W.heap[w.heap.size]?=Z (V V4.zero.cells 30 (0,0))
 r1:W.heap[w.heap.size+1]?=Z (V v.cells 30 (0,0))
def jk.set  {v a:V4} (h:jk w v W) (o:Nat) (x:VL) (e:v.cells.setIfInBounds o x=a.cells):jk w a (W.setCell ⟨w.heap.size+1,o,I⟩ x):=
 ⟨h.low.setCell (D8 _) _,Cv (Nat.ne_of_lt (Nat.lt_succ_self _)) _ h.r0,by rw[Am h.r1,e]⟩
def Lc (u c:V4) (k:Nat):V4:=⟨if 0<k then u.a+c.a else u.a,if 1<k then u.b+c.b else u.b,if 2<k then u.c+c.c else u.c,if 3<k then u.d+c.d else u.d⟩
def Abl (vs:List ax) (p:ByteArray) (w:WD) (e:Ending) (w':WD):Prop:=e=K (Ea vs p).val/\BW w.heap.size w w'
