/- Parts of a proof. No condition. -/
import Derived.Test.YtimlcnhcjndijaaGreatDoorH07
import Derived.Test.YtimlcnhcjndijaaGreatDoorH09
import Derived.Maps.OwnIn
import Derived.Lib.OwnBridge
set_option linter.all false
set_option maxRecDepth 100000
set_option maxHeartbeats 6400000
namespace Go.Proofs.YtimlcnhcjndijaaGreatDoor
open Value renaming pointer->K,string->E,int->Z,slice->V,tuple->D,bool->Y
open Option renaming some->O,none->I
open Obj renaming cells->J
open Ending renaming returned->Q
open IntKind renaming i64->G
open Go renaming World->WD,Value->VL,Calls->CS
open Go.RowKit renaming Below->BW
open Go.Proofs.Tryz
section
open Go.RowKit Go.Maps Go.Lib
def Ane (s:ByteArray) (w:WD):CS prog 40 #[E s] w λe w'=>e=Q (.func (.func 75) #[] #[K (O ⟨w.heap.size,0,I⟩)])/\w'=w.alloc (J #[E s] 9 (0,0)):=by
 go_enter func40,ntmps40;go_wp2;go_ret;exact⟨rfl,rfl⟩
def Bi:List ay->List (Int×ByteArray)->List ay×Int×Int
 | xs,[]=>(xs,0,0)
 | xs,(i,l)::ls=>
  match I2 l with
  | none=>(xs,50,i)
  | some v=>if Ea (xs.map ay.name) xs.length v.name v.parts=0 then Bi (xs++[v]) ls else(xs,Ea (xs.map ay.name) xs.length v.name v.parts,i)
def O3 (s:ByteArray):List ay×Int×Int:=if 4096<s.size then([],2,0)else Bi [] (I4 s)
def Aaj (xs:List ay) (l m:List (Int×ByteArray)) (h:(Bi xs l).2.1=0):Bi xs (l++m)=Bi (Bi xs l).1 m:=by
 induction l generalizing xs with
 | nil=>rfl
 | cons x l ih=>
  obtain⟨i,b⟩:=x;show Bi xs ((i,b)::(l++m))=_;simp only[Bi]at h ⊢
  cases hn:I2 b with
  | none=>rw[hn]at h;simp at h
  | some v=>
   rw[hn]at h;simp only at h ⊢;by_cases c:Ea (xs.map ay.name) xs.length v.name v.parts=0
   .rw [Ad c]at h ⊢;rw[Ad c];exact ih _ h
   .rw [Ab c]at h;exact absurd h c
end
section
open Go.RowKit Go.Maps Go.Shelf
variable{vs:List ay}{k:Nat}{row:Option Nat}{W w w':WD}
structure lg (W:WD) (fb mb base:Nat) (vs:List ay):Prop where
 ex:∃nv xs,jm W fb mb base nv xs/\xs.map aw.pl=vs/\∀x,x∈xs->∀b off,x.po=O ⟨b,off,I⟩->base<=b
def lg.below  {a b base:Nat}  (h:lg w a b base vs) (e:BW w.heap.size w w'):lg w' a b base vs:=by
 obtain⟨f,xs,h1,c,d⟩:=h.ex;exact⟨f,xs,h1.below e,c,d⟩
def Anf  {l n base:Nat} {r:VL} {xs:List aw}  (h:jm w l n base r xs) (p:w.grownBy w' row) (t:row≠O n)
  (u:∀x,x∈xs->∀b a,x.po=O ⟨b,a,I⟩->base<=b) (d:∀(k:Nat) (c:Array VL) (T:TypeId) (fr:Nat×Nat),(k=l\/base<=k)->w.heap[k]?=O (J c T fr)->w'.heap[k]?=O (J c T fr)):jm w' l n base r xs:=by
 refine⟨d _ _ _ _ (.inl rfl) h.head,⟨h.row.1,?_⟩,h.map.kept p (P7 t),λx i=>?_⟩
 .rcases h.row.2 with h|⟨g,cap,j,y,f,s,v⟩
  .exact .inl h
  .exact .inr ⟨g,cap,j,y,f,d _ _ _ _ (.inr f) s,v⟩
 .have q:∀b a,x.po=O ⟨b,a,I⟩->∃c,w.heap[b]?=O (J c 9 (0,0))/\w'.heap[b]?=O (J c 9 (0,0)):=λb a e=>by
   obtain⟨c,o⟩:=(h.ok x i).2 b a e;exact⟨c,o,d _ _ _ _ (.inr (u x i b a e)) o⟩
  refine⟨⟨Xd (h.ok x i).1.parts p.size λb a e _=>?_,(h.ok x i).1.nu⟩,λb a e=>?_⟩
  .obtain ⟨c,h1,m⟩:=q b a e;rw[h1,m]
  .obtain ⟨c,_,m⟩:=q b a e;exact⟨c,m⟩
def Ang (xs:List ay) (l m:List (Int×ByteArray)) (h:(Bi xs l).2.1≠0):Bi xs (l++m)=Bi xs l:=by
 induction l generalizing xs with
 | nil=>exact absurd rfl h
 | cons x l ih=>
  obtain⟨i,b⟩:=x;show Bi xs ((i,b)::(l++m))=_;simp only[Bi]at h ⊢
  cases hn:I2 b with
  | none=>rfl
  | some v=>
   rw[hn]at h;simp only at h ⊢;by_cases c:Ea (xs.map ay.name) xs.length v.name v.parts=0
   .rw [Ad c]at h ⊢;rw[Ad c];exact ih _ h
   .rw [Ab c,Ab c]
def Anh {xs:List ay} {i:Int} {l:ByteArray} (h:I2 l=I):Bi xs [(i,l)]=(xs,50,i):=by
 simp only[Bi,h]
def Ani {xs:List ay} {i:Int} {l:ByteArray} {v:ay} (h:I2 l=O v) (a:Ea (xs.map ay.name) xs.length v.name v.parts=0):Bi xs [(i,l)]=(xs++[v],0,0):=by
 simp only[Bi,h,Ad a]
def Anj {xs:List ay} {i:Int} {l:ByteArray} {v:ay} (h:I2 l=O v) (a:Ea (xs.map ay.name) xs.length v.name v.parts≠0):Bi xs [(i,l)]=(xs,Ea (xs.map ay.name) xs.length v.name v.parts,i):=by
 simp only[Bi,h,Ab a]
structure pj (w:WD) (pre:List (Int×ByteArray)) (W:WD):Prop where
 fl:lg W (w.heap.size+4) (w.heap.size+3) (w.heap.size+7) (Bi [] pre).1
 ok:(Bi [] pre).2.1=0
 low:BW w.heap.size w W
 mx:Mx W
 c0:W.heap[w.heap.size]?=O (J #[K I] 23 (0,0))
 c1:W.heap[w.heap.size+1]?=O (J #[Z G 0] 24 (0,0))
 c2:W.heap[w.heap.size+2]?=O (J #[Z G 0] 3 (0,0))
 fx:W.heap[w.heap.size+5]?=O (J #[K (O ⟨w.heap.size+4,0,I⟩)] 23 (0,0))
 sz:w.heap.size+7<=W.heap.size
structure xd (w:WD) (pre:List (Int×ByteArray)) (W:WD):Prop where
 low:BW w.heap.size w W
 bad:(Bi [] pre).2.1≠0
 c0:W.heap[w.heap.size]?=O (J #[K I] 23 (0,0))
 c1:W.heap[w.heap.size+1]?=O (J #[Z G (Bi [] pre).2.1] 24 (0,0))
 c2:W.heap[w.heap.size+2]?=O (J #[Z G (Bi [] pre).2.2] 3 (0,0))
 sz:w.heap.size+7<=W.heap.size
def xa (w W:WD) (row:Option Nat):Prop:=∀r,row=O r->r=w.heap.size+6\/(w.heap.size+7<=r/\∃o:Obj,W.heap[r]?=O o/\o.isCells=false)
def O4 {w W a:WD}  (f:W.grownBy a row) (i:xa w W row)  {c:Array VL} {T:TypeId} {fr:Nat×Nat} (g:k≠w.heap.size+6) (h:W.heap[k]?=O (J c T fr)):a.heap[k]?=O (J c T fr):=
 (f.block k (Ac h) (λe=>by
  rcases i k e.symm with e|⟨_,o,b,d⟩
  .exact g e
  .rw [h]at b;cases b;simp[Obj.isCells]at d)).trans h
def Aej {w W a:WD}  (b:W.grownBy a row) (c:xa w W row) (h:BW w.heap.size w W):BW w.heap.size w a:=
 h.grown b h.size (λk e=>by rcases c k e with e|⟨e,_⟩<;>omega)
def pj.grown {w W f:WD} {d:List (Int×ByteArray)}  (h:pj w d W) (a:W.grownBy f row) (b:xa w W row):pj w d f:=by
 obtain⟨l,xs,h1,i,g⟩:=h.fl.ex;refine⟨⟨l,xs,Anf h1 a (λe=>?_) g (λk c T fr m j=>O4 a b ao9 j),i,g⟩,h.ok,Aej a b h.low,?_,O4 a b ao9 h.c0,O4 a b ao9 h.c1,O4 a b ao9 h.c2,O4 a b ao9 h.fx,Aw h.sz a.size⟩
 .rcases b _ e with e|⟨e,_⟩<;>omega
 .refine h.mx.kq (a.block 0 h.mx.pos (λe=>?_));have:=h.sz
  rcases b _ e.symm with e|⟨e,_⟩<;>omega
def xd.grown {w W d:WD} {b:List (Int×ByteArray)}  (h:xd w b W) (a:W.grownBy d row) (c:xa w W row):xd w b d:=
 ⟨Aej a c h.low,h.bad,O4 a c ao9 h.c0,O4 a c ao9 h.c1,O4 a c ao9 h.c2,Aw h.sz a.size⟩
def pj.below {w W c:WD} {b:List (Int×ByteArray)} (h:pj w b W) (a:BW W.heap.size W c):pj w b c:=
 ⟨h.fl.below a,h.ok,h.low.trans (a.mono h.low.size),h.mx.low a,Ae a h.c0 (Ac h.c0),Ae a h.c1 (Ac h.c1),Ae a h.c2 (Ac h.c2),Ae a h.fx (Ac h.fx),Aw h.sz a.size⟩
def Jn.keeps {b f base j B:Nat} {W a:WD} (h:Jn b f base j W a) (l:b<B) (n:f<B) (i:W.heap.size<=a.heap.size):KeepsFrom B W a:=
 ⟨i,λk o m g d=>h.same k o g ao9 ao9 (.inr λc fr e=>by rw[e]at d;simp[Obj.isCells]at d)⟩
def Jn.ar {b d base j k:Nat} {W a:WD} (h:Jn b d base j W a) (g:k<W.heap.size) (f:k≠b) (i:k≠d) (e:k<base):a.heap[k]?=W.heap[k]?:=by
 obtain⟨o,c⟩:∃o,W.heap[k]?=O o:=⟨_,Rf g⟩;rw[c];exact h.same k o c i f (.inl e)
def Ank (n:Nat) (b:List (List UInt8)):∀x,x∈Ie n b->∃p,p∈b/\x.2=au p:=by
 induction b generalizing n with
 | nil=>intro x a;simp[Ie]at a
 | cons p b ih=>
  intro x a;simp only[Ie]at a
  have c:x∈Ie (n+1) b->∃q,q∈p :: b/\x.2=au q:=λh=>by
   obtain⟨q,h1,d⟩:=ih _ x h;exact⟨q,Dj _ h1,d⟩
  split at a
  .rcases Eh.1 a with rfl|h
   .exact ⟨p,Ef ..,rfl⟩
   .exact c h
  .exact c a
def Anl {s:ByteArray} {x:Int×ByteArray} (h:x∈I4 s):x.2.size<=s.size:=by
 obtain⟨p,h1,a⟩:=Ank 0 _ x h;have:=Aec h1;rw[a,Gg,<-M8 s];exact this
structure Aek (v:ay):Prop where
 name:C1 v.name=true
 parts:∀p,p∈v.parts->C1 p=true
 one:1<=v.parts.length
 cap:v.cap.right=true
def T7 {s:ByteArray} (h:C1 s=true):s.size<=16:=by
 simp only[C1,D7,Iu]at h;exact h.1.2
def Ael {s:ByteArray} {v:ay} (h:I2 s=O v):Aek v:=by
 by_cases c:K1 s
 .rw [Aac c]at h;cases h;obtain⟨h1,b,d,a⟩:=c;refine⟨b,d,by simp;omega,?_⟩;show(Kc (ik s 1)).1.right=true;unfold Kc at a ⊢;split at a
  .next hl=>
   rw[Ad hl];unfold V4.told at a ⊢;split at a
   .next hr=>rw[Ad hr];exact hr
   .cases a
  .cases a
 .rw [R0 c]at h;cases h
def Anm {s:ByteArray} {v:ay} (h:I2 s=O v):v.parts.length<=s.size+1:=by
 by_cases c:K1 s
 .rw [Aac c]at h;cases h;have:=Aed s;simp;omega
 .rw [R0 c]at h;cases h
def Ann (xs:List ay) (l:List (Int×ByteArray)) (h:(Bi xs l).2.1=0):(Bi xs l).2.2=0:=by
 induction l generalizing xs with
 | nil=>rfl
 | cons x l ih=>
  obtain⟨i,b⟩:=x;simp only[Bi]at h ⊢
  cases hn:I2 b with
  | none=>rw[hn]at h;simp at h
  | some v=>
   rw[hn]at h;simp only at h ⊢;by_cases c:Ea (xs.map ay.name) xs.length v.name v.parts=0
   .rw [Ad c]at h ⊢;exact ih _ h
   .rw [Ab c]at h;exact absurd h c
structure S3 (R:Nat) (W W':WD) (p:VL) (e i:Int):Prop where
 size:W'.heap.size=W.heap.size
 c0:W'.heap[R]?=O (J #[p] 23 (0,0))
 c1:W'.heap[R+1]?=O (J #[Z G e] 24 (0,0))
 c2:W'.heap[R+2]?=O (J #[Z G i] 3 (0,0))
 other:∀(k:Nat) (o:Obj),W.heap[k]?=O o->k≠R->k≠R+1->k≠R+2->W'.heap[k]?=O o
 low:∀w,BW R w W->BW R w W'
 back:∀(k:Nat),k≠R->k≠R+1->k≠R+2->W'.heap[k]?=W.heap[k]?
def If  {b o k:Nat} {v:VL} (h:k≠b):(W.setCell ⟨b,o,I⟩ v).heap[k]?=W.heap[k]?:=Ci _ _ _ _ h
def Aak {R:Nat}  {a b c:VL} (h0:W.heap[R]?=O (J #[a] 23 (0,0))) (h1:W.heap[R+1]?=O (J #[b] 24 (0,0))) (l:W.heap[R+2]?=O (J #[c] 3 (0,0))) (p:VL) (e i:Int) :
  S3 R W (((W.setCell ⟨R,0,I⟩ p).setCell ⟨R+1,0,I⟩ (Z G e)).setCell ⟨R+2,0,I⟩ (Z G i)) p e i:=by
 have d:∀(k:Nat),k≠R->k≠R+1->k≠R+2->(((W.setCell ⟨R,0,I⟩ p).setCell ⟨R+1,0,I⟩ (Z G e)).setCell ⟨R+2,0,I⟩ (Z G i)).heap[k]?=W.heap[k]?:=λk f g j=>
  (If j).trans ((If g).trans (If f))
 refine⟨by simp[World.setCell],?_,?_,?_,λk o m f g j=>(d k f g j).trans m,λw h=>((h.setCell Ln _).setCell (D9 _) _).setCell (Nat.le_add_right _ _) _,d⟩
 .rw [If ao9,If ao9,Am h0];rfl
 .rw [If ao9,Am (c:=#[b]) (T:=24) (fr:=(0,0)) ((If ao9).trans h1)];rfl
 .rw [Am (c:=#[c]) (T:=3) (fr:=(0,0)) ((If ao9).trans ((If ao9).trans l))];rfl
def lg.other {W l:WD} {p s base:Nat}  (h:lg W p s base vs) (r:W.heap.size<=l.heap.size) (d:∀(k:Nat) (o:Obj),W.heap[k]?=O o->k=p\/k=s\/(base<=k/\o.isCells=true)->l.heap[k]?=O o):lg l p s base vs:=by
 obtain⟨nv,xs,h1,i,t⟩:=h.ex;refine⟨nv,xs,⟨d _ _ h1.head (.inl rfl),⟨h1.row.1,?_⟩,?_,λx m=>?_⟩,i,t⟩
 .rcases h1.row.2 with h|⟨g,cap,n,hv,j,hh,q⟩
  .exact .inl h
  .exact .inr ⟨g,cap,n,hv,j,d _ _ hh (.inr (.inr ⟨j,rfl⟩)),q⟩
 .obtain ⟨y,f,z,q⟩:=h1.map;exact⟨y,f,d _ _ z (.inr (.inl rfl)),q⟩
 .have v:∀b a,x.po=O ⟨b,a,I⟩->∃c,W.heap[b]?=O (J c 9 (0,0))/\l.heap[b]?=O (J c 9 (0,0)):=λb a e=>by
   obtain⟨c,u⟩:=(h1.ok x m).2 b a e;exact⟨c,u,d _ _ u (.inr (.inr ⟨t x m b a e,rfl⟩))⟩
  refine⟨⟨Xd (h1.ok x m).1.parts r λb a e _=>?_,(h1.ok x m).1.nu⟩,λb a e=>?_⟩
  .obtain ⟨c,h1,i⟩:=v b a e;rw[h1,i]
  .obtain ⟨c,_,i⟩:=v b a e;exact⟨c,i⟩
def Ano {w p n:WD} {d:List (Int×ByteArray)} {i:Int} {u:ByteArray} {j:VL} {xs:List aw} {x:aw} (e:pj w d p) (q:xs.map aw.pl=(Bi [] d).1)
  (h3:∀y,y∈xs->∀b f,y.po=O ⟨b,f,I⟩->w.heap.size+7<=b) (hs:I2 u=O x.pl) (t:∀b f,x.po=O ⟨b,f,I⟩->w.heap.size+7<=b)
  (v:Ea (xs.map aw.name) xs.length x.name x.parts=0) (hF:jm n (w.heap.size+4) (w.heap.size+3) (w.heap.size+7) j (xs++[x]))
  (l:Jn (w.heap.size+4) (w.heap.size+3) (w.heap.size+7) w.heap.size p n) (g:0<w.heap.size):pj w (d++[(i,u)]) n:=by
 have ac:=e.sz;have h4:=l.low.size;have s:xs.map aw.name=(Bi [] d).1.map ay.name:=by rw[<-q,De];rfl
 have r:xs.length=(Bi [] d).1.length:=by rw[<-q,As]
 have z:Bi [] (d++[(i,u)])=((Bi [] d).1++[x.pl],0,0):=by rw[Aaj _ _ _ e.ok,Ani hs];rw[s,r]at v;exact v
 have m:∀ {k:Nat} {o:Obj},p.heap[k]?=O o->k≠w.heap.size+4->k≠w.heap.size+3->k<w.heap.size+7->n.heap[k]?=O o:=λhk a b c=>l.same _ _ hk b a (.inl c);refine⟨⟨j,xs++[x],hF,by rw[z,Dw,q];rfl,λy hy=>?_⟩,by rw[z],e.low.trans l.low,?_,m e.c0 ao9 ao9 ao9,m e.c1 ao9 ao9 ao9,m e.c2 ao9 ao9 ao9,m e.fx ao9 ao9 ao9,ao9⟩
 .rcases C7.1 hy with h|h
  .exact h3 y h
  .have:y=x:=by simpa using h
   subst this;exact t
 .exact e.mx.kq (l.low.block 0 g)
def Anp {w e d:WD} {i:List (Int×ByteArray)} (f:pj w i e)
  (g:Jn (w.heap.size+4) (w.heap.size+3) (w.heap.size+7) w.heap.size e d) :
  d.heap[w.heap.size]?=O (J #[K I] 23 (0,0))/\d.heap[w.heap.size+1]?=O (J #[Z G 0] 24 (0,0))/\d.heap[w.heap.size+2]?=O (J #[Z G 0] 3 (0,0))/\BW w.heap.size w d/\e.heap.size<=d.heap.size:=by
 have h:∀ {k:Nat} {o:Obj},e.heap[k]?=O o->k≠w.heap.size+4->k≠w.heap.size+3->k<w.heap.size+7->d.heap[k]?=O o:=λj a b c=>g.same _ _ j b a (.inl c);exact⟨h f.c0 ao9 ao9 ao9,h f.c1 ao9 ao9 ao9,h f.c2 ao9 ao9 ao9,f.low.trans g.low,g.low.size⟩
attribute [local go_sem] Oper.semAt_some
def o8 (w:WD) (s:ByteArray):WD:=
 ((((((w.alloc (J #[K I] 23 (0,0))).alloc (J #[Z G 0] 24 (0,0))).alloc (J #[Z G 0] 3 (0,0))).alloc (.map #[] 0)).alloc (J #[V I 0 0,.map (O (w.heap.size+3))] 101 (0,0))).alloc (J #[K (O ⟨w.heap.size+4,0,I⟩)] 23 (0,0))).alloc (J #[E s] 9 (0,0))
def Aem (w:WD) (s:ByteArray):(o8 w s).heap.size=w.heap.size+7:=by simp[o8]
def Aen (w:WD) (s:ByteArray):BW w.heap.size w (o8 w s):=
 (((((Bn.alloc as9 _).alloc (by simp;omega) _).alloc (by simp;omega) _).alloc (by simp;omega) _).alloc (by simp;omega) _).alloc (by simp;omega) _
def Anq (w:WD) (s:ByteArray):(o8 w s).heap[w.heap.size+6]?=O (J #[E s] 9 (0,0)):=by
 unfold o8;exact A2 _ _ as9
def Anr (w:WD) (s:ByteArray) (b:Mx w):pj w [] (o8 w s):=by
 refine⟨⟨V I 0 0,[],⟨?_,⟨rfl,.inl ⟨rfl,rfl⟩⟩,?_,λx a=>by cases a⟩,rfl,λx a=>by cases a⟩,rfl,Aen w s,b.low (Aen w s),?_,?_,?_,?_,by rw[Aem];exact Nat.le_refl _⟩
 .unfold o8;exact Ak _ (Ak _ (A2 _ _ as9))
 .have h0:=Zr ((((w.alloc (J #[K I] 23 (0,0))).alloc (J #[Z G 0] 24 (0,0))).alloc (J #[Z G 0] 3 (0,0)))) prog 9 (plainElem (H:=Unit) prog 3);have h1:=((h0.alloc (J #[V I 0 0,.map (O (w.heap.size+3))] 101 (0,0))).alloc (J #[K (O ⟨w.heap.size+4,0,I⟩)] 23 (0,0))).alloc (J #[E s] 9 (0,0));simp only[Kt]at h1;exact h1
 .unfold o8;exact Ak _ (Ak _ (Ak _ (Ak _ (Ak _ (Ak _ (Ah _ _))))))
 .unfold o8;exact Ak _ (Ak _ (Ak _ (Ak _ (Ak _ (A2 _ _ as9)))))
 .unfold o8;exact Ak _ (Ak _ (Ak _ (Ak _ (A2 _ _ as9))))
 .unfold o8;exact Ak _ (A2 _ _ as9)
def Aal (s:ByteArray) (w:WD) (e:Ending) (w':WD):Prop:=
 ∃p,e=Q (D #[.pointer p,Z G (O3 s).2.1,Z G (O3 s).2.2])/\BW w.heap.size w w' /\
  (((O3 s).2.1≠0/\p=I)\/((O3 s).2.1=0/\p=O ⟨w.heap.size+4,0,I⟩/\lg w' (w.heap.size+4) (w.heap.size+3) (w.heap.size+7) (O3 s).1))
def Ans (s:ByteArray) (w:WD) (b:4096<s.size):CS prog 13 #[E s] w (Aal s w):=by
 have a:O3 s=([],2,0):=Ad b;have c:decide ((4096:Int)<s.size)=true:=Bs ao9;replace a:=Hh a;go_enter func13,ntmps13;go_wp2;refine An (v:=D #[K I,Z G 2,Z G 0]) (by simp[results,results13,go_sem]) rfl ?_;refine⟨I,by rw[a.out],?_,.inl ⟨by rw[a.out];decide,rfl⟩⟩;exact(Bn.alloc as9 _).alloc (by simp;omega) _
def Ant (s:ByteArray) (w:WD) (hm:Mx w) (hs:¬4096<s.size):CS prog 13 #[E s] w (Aal s w):=by
 have hr:O3 s=Bi [] (I4 s):=Ab hs;have a2:=@run_makeMap prog;have d1:decide ((4096:Int)<s.size)=false:=Bz ao9;have aJ:=hm;replace⟨hr,aJ,hm⟩:=H3 hr aJ hm;refine(Kw (n:=8)).1 ?_;refine callsIn_of_wp_marks func13 rfl trivial ?_ rfl;simp only[ntmps13,Tm,D8,Ib,Nat.reduceAdd,Nat.reduceSub,Zm,Zn,Zv,Zo,Oz,P1]
 gi_wp2_with fail
 refine⟨trivial,(Kw.2 (Ane s _)).mono ?_⟩;rintro e w1 ⟨rfl,a6⟩
 gi_wp2_with fail
 subst a6;clear a2;change Code.wpIn _ _ _ _ _ { tmps:=#[E s,undef,K (O ⟨w.heap.size,0,I⟩),K (O ⟨w.heap.size+1,0,I⟩),K (O ⟨w.heap.size+2,0,I⟩),K (O ⟨w.heap.size+5,0,I⟩),undef,undef,undef,undef,E s,Z G s.size,Y false,.map (O (w.heap.size+3)),.agg #[V I 0 0,.map (O (w.heap.size+3))],K (O ⟨w.heap.size+4,0,I⟩),E s,.func (.func 75) #[] #[K (O ⟨w.heap.size+6,0,I⟩)],undef,undef,undef,undef,undef,undef,undef,undef,undef,undef,undef,undef,undef,undef,undef,undef,undef],defers:=[] } (o8 w s);have hS:=Anr w s aJ.out;have aW:=Aem w s;have aH:=Anq w s;have aK:=hS.mx;have aO:=aJ.pos;generalize o8 w s=W1 at hS aW aH aK ⊢;replace⟨hS,aH,aK⟩:=H3 hS aH aK;refine Am9 rfl ao9 (gf:=75) (lb:=#[K (O ⟨w.heap.size+6,0,I⟩)]) rfl trivial (enters_of func75 (by kernel_rfl) rfl)
  (Anc 7 ao9 (w.heap.size+6) s W1 ao9 aH.out aK.out ao9) ao9 ao9 (Below.refl _ _) (λ_=>rfl)
  (pj w) (λc j W=>c=.ret/\xd w j W) ?hI ?hIx ?hIb ?hIxb hS.out
  (λx=>{ tmps:=#[E s,undef,K (O ⟨w.heap.size,0,I⟩),K (O ⟨w.heap.size+1,0,I⟩),K (O ⟨w.heap.size+2,0,I⟩),K (O ⟨w.heap.size+5,0,I⟩),Z G x.1,E x.2,undef,undef,E s,Z G s.size,Y false,.map (O (w.heap.size+3)),.agg #[V I 0 0,.map (O (w.heap.size+3))],K (O ⟨w.heap.size+4,0,I⟩),E s,.func (.func 75) #[] #[K (O ⟨w.heap.size+6,0,I⟩)],Z G x.1,E x.2,undef,undef,undef,undef,undef,undef,undef,undef,undef,undef,undef,undef,undef,undef,undef],defers:=[] }) ?assign ?body ?done ?stop
 case hI=>
  intro j A B row h hg aV;exact h.grown hg λr e=>.inr (by rw[<-aW];exact aV r e)
 case hIx=>
  rintro c j A B row ⟨rfl,h⟩ hg aV;exact⟨rfl,h.grown hg λr e=>.inr (by rw[<-aW];exact aV r e)⟩
 case hIb=>
  intro j A B h hg;exact h.grown hg λr e=>.inl (by cases e;rfl)
 case hIxb=>
  rintro c j A B ⟨rfl,h⟩ hg;exact⟨rfl,h.grown hg λr e=>.inl (by cases e;rfl)⟩
 case assign=>
  intro l x W K9q t
  gi_wp2
  exact t
 case body=>
  rintro l j ⟨i,ln⟩ W hI v;have av:(i,ln)∈I4 s:=v.subset as9;have aI:=Anl av;have ad:=Amx ln W hI.mx (by have:ln.size<=s.size:=aI;omega);replace⟨hI,v,av,aI,ad⟩:=H5 hI v av aI ad
  gi_wp2_with fail
  refine⟨trivial,((Kw.2 ad.out).inRound l).mono ?_⟩;rintro e w2 ⟨x,r,rfl,aA,f,ap,aQ⟩;have d:=hI.below f;have c0:=Aa d.c0 0;have c1:=Aa d.c1 0;have c2:=Aa d.c2 0;have c5:=Aa d.fx 0;have f0:=Ag d.c0 0;have f1:=Ag d.c1 0;have f2:=Ag d.c2 0;have l0:=Ac d.c0;have l1:=Ac d.c1;have l2:=Ac d.c2;have l5:=Ac d.fx;simp at c0 c1 c2 c5;rcases aQ with⟨af,rfl,rfl⟩|⟨q,rfl⟩
  .have a:=Aak d.c0 d.c1 d.c2 (K I) 50 i;have y:Bi [] (j++[(i,ln)])=((Bi [] j).1,50,i):=(by rw[Aaj _ _ _ hI.ok,Anh af]);have a7:=d.sz;replace⟨d,aA,f,ap,af,a,y⟩:=H7 d aA f ap af a y
   gi_wp2
   refine⟨?_,rfl,?_⟩
   .refine ⟨?_,λk o hk hh ho=>Ak _ (a.other k o (Ae f.out hh (Ac hh)) ao9 ao9 ao9)⟩;have:=a.size;have:=f.size;rw[Kt];omega
   .refine ⟨(a.low _ d.low).alloc (a.low _ d.low).size _,by rw[y.out];show(50:Int)≠0;decide,Ak _ a.c0,by rw[y.out];exact Ak _ a.c1,by rw[y.out];exact Ak _ a.c2,?_⟩;have:=a.size;rw[Kt];omega
  .have aR:=Ael q;have aT:=Anm q;have aS:=T7 aR.name;obtain⟨W3,aG⟩:=Ex (w2.alloc (J x.cells 69 (0,0)));have g:BW w2.heap.size w2 W3:=(by rw[aG];exact Bn);have ao:=d.below g;have al:=aA.low g
   have aB:R2 W3 x:=λb aX e=>by
    obtain⟨_,c,hc⟩:=ap b aX e;exact⟨c,Ae g hc (Ac hc)⟩
   obtain⟨nv,xs,h1,h2,h3⟩:=ao.fl.ex;have aC:=λb aX e=>Aw hI.sz (ap b aX e).1;have aU:x.pn<=4294967296:=(by have e1:=al.parts.len;have e2:x.parts.length<=ln.size+1:=aT;have:ln.size<=s.size:=aI.out;omega);have z:=Am8 W3 (w.heap.size+4) (w.heap.size+3) (w.heap.size+7) w.heap.size nv xs x h1 al aB (by have:maxLen=9223372036854775807:=rfl;have:x.name.size<=16:=aS;omega) aU ao9 ao9 ao9 ao.sz;obtain⟨E9q,hE⟩:=Ex (Ea (xs.map aw.name) xs.length x.name x.parts);rw[<-hE]at z;have aL:xs.map aw.name=(Bi [] j).1.map ay.name:=(by rw[<-h2,De];rfl);have aN:xs.length=(Bi [] j).1.length:=(by rw[<-h2,As]);obtain⟨nm,⟨ca,cb,cc,cd⟩,po,pn,pc,ps⟩:=x;rw[aG]at z;replace⟨d,aA,f,ap,q,aR,aT,aS⟩:=H8 d aA f ap q aR aT aS;replace⟨g,ao,al,aB,h1,h2,h3,aC⟩:=H8 g ao al aB h1 h2 h3 aC;replace⟨aU,z,hE,aL,aN⟩:=H5 aU z hE aL aN;have aY:=Hh aG;clear aG
   gi_wp2_with fail
   refine⟨trivial,((Kw.2 z.out).inRound l).mono ?_⟩;rintro e w4 ⟨a8,rfl,an,t⟩;rw[<-aY.out]at t;have a4:=Anp ao.out t;obtain⟨q0,q1,q2,u,p⟩:=a4;clear c0 c1 c2 c5 f0 f1 f2 l0 l1 l2 l5;by_cases am:E9q=0
   .subst am;rw[Ad rfl]at an;have aP:pj w (j++[(i,ln)]) w4:=Ano ao.out h2.out h3.out q.out aC.out hE.symm an t aO;replace⟨an,t,q0,q1,q2,u,p,aP⟩:=H8 an t q0 q1 q2 u p aP
    gi_wp2
    have aD:=Aw f.size g.size;have aE:=λk hk=>(g.block k (B4 hk f.size)).trans (f.block k hk);have a5:=hI.sz;refine⟨⟨Aw aD p.out,λk o hk hh ho=>?_⟩,⟨?_,?_⟩,aP.out⟩
    .exact (t.keeps (B:=W1.heap.size) ao9 ao9 p.out).same k o hk ((aE k (Ac hh)).trans hh) ho
    .exact (t.ar ao9 ao9 ao9 ao9).trans (aE _ ao9)
    .exact (t.low.block 0 aO).trans (aE _ ao9)
   .have y:Bi [] (j++[(i,ln)])=((Bi [] j).1,E9q,i):=by
     rw[Aaj _ _ _ hI.ok,Anj q.out]
     .rw [<-aL.out,<-aN.out];rw[hE.out];rfl
     .rw [<-aL.out,<-aN.out];exact λc=>am (hE.trans c)
    have a:=Aak q0 q1 q2 (K I) E9q i;have c0:=Aa q0 0;have c1:=Aa q1 0;have c2:=Aa q2 0;have f0:=Ag q0 0;have f1:=Ag q1 0;have f2:=Ag q2 0;simp at c0 c1 c2;have dE:(E9q != 0)=true:=(by simpa using am);replace⟨an,t,q0,q1,q2,u,p,am⟩:=H8 an t q0 q1 q2 u p am;replace⟨y,a⟩:=H2 y a
    gi_wp2
    have aD:=Aw f.size g.size;have aE:=λk hk=>(g.block k (B4 hk f.size)).trans (f.block k hk);have a5:=hI.sz;refine⟨⟨by rw[a.size];exact Aw aD p.out,λk o hk hh ho=>?_⟩,rfl,a.low _ u.out,by rw[y.out];exact am.out,a.c0,by rw[y.out];exact a.c1,by rw[y.out];exact a.c2,by rw[a.size];have:=p.out;omega⟩;exact a.other k o ((t.keeps (B:=W1.heap.size) ao9 ao9 p.out).same k o hk ((aE k (Ac hh)).trans hh) ho) ao9 ao9 ao9
 case done=>
  intro D0 W hD hI t;have c0:=Aa hI.c0 0;have c1:=Aa hI.c1 0;have c2:=Aa hI.c2 0;have c5:=Aa hI.fx 0;have f0:=Ag hI.c0 0;have f1:=Ag hI.c1 0;have f2:=Ag hI.c2 0;simp at c0 c1 c2 c5;have a:=Aak hI.c0 hI.c1 hI.c2 (K (O ⟨w.heap.size+4,0,I⟩)) 0 0;have hz:=Ann [] (I4 s) hI.ok;have aZ:=Ac t;have aF:=a.other D0 _ t ao9 ao9 ao9;replace⟨hI,t,a,hz,aF⟩:=H5 hI t a hz aF
  gi_wp2
  refine⟨as9,.inl ⟨_,_,rfl,run_takeDeferred aF.out,?_⟩⟩;obtain⟨W5,a1⟩:=Ex ((((W.setCell ⟨w.heap.size,0,I⟩ (K (O ⟨w.heap.size+4,0,I⟩))).setCell ⟨w.heap.size+1,0,I⟩ (Z G 0)).setCell ⟨w.heap.size+2,0,I⟩ (Z G 0)));have ac:=a.out;have a0:=aF.out;rw[<-a1]at ac a0 ⊢;have g0:=Aa ((World.putObj_heap_other (o:=.deferred I) (show w.heap.size≠D0 by omega)).trans ac.c0) 0;have g1:=Aa ((World.putObj_heap_other (o:=.deferred I) (show w.heap.size+1≠D0 by omega)).trans ac.c1) 0;have g2:=Aa ((World.putObj_heap_other (o:=.deferred I) (show w.heap.size+2≠D0 by omega)).trans ac.c2) 0;simp at g0 g1 g2;refine⟨D #[K (O ⟨w.heap.size+4,0,I⟩),Z G 0,Z G 0],by simp[results,results13,go_sem,g0,g1,g2],O ⟨w.heap.size+4,0,I⟩,by rw[hr.out,hI.ok,hz.out],?_,.inr ⟨by rw[hr.out];exact hI.ok,rfl,?_⟩⟩
  .exact (ac.low _ hI.low).grown (grownBy_putObj' _ D0 _) (ac.low _ hI.low).size (λk e=>by cases e;omega)
  .rw [hr.out];refine hI.fl.other (by have:=ac.size;simp[World.putObj];omega) λk o hk hc=>?_
   have a3:k≠D0:=λe=>by
    subst e;rw[t.out]at hk;cases hk;rcases hc with e|e|⟨_,e⟩
    .omega
    .omega
    .simp [Obj.isCells]at e
   exact(World.putObj_heap_other a3).trans (ac.other k o hk ao9 ao9 ao9)
 case stop=>
  rintro D0 c j ⟨i,ln⟩ W hD v ⟨rfl,hX⟩ t;have aZ:=Ac t;have aM:Bi [] (I4 s)=Bi [] (j++[(i,ln)]):=by obtain⟨m,hm⟩:=v;rw[<-hm,Ang _ _ _ hX.bad]
  replace⟨hX,t,aM,v⟩:=H4 hX t aM v
  gi_wp2
  refine⟨as9,.inl ⟨_,_,rfl,run_takeDeferred t.out,?_⟩⟩;have g0:=Aa ((World.putObj_heap_other (o:=.deferred I) (show w.heap.size≠D0 by omega)).trans hX.c0) 0;have g1:=Aa ((World.putObj_heap_other (o:=.deferred I) (show w.heap.size+1≠D0 by omega)).trans hX.c1) 0;have g2:=Aa ((World.putObj_heap_other (o:=.deferred I) (show w.heap.size+2≠D0 by omega)).trans hX.c2) 0;simp at g0 g1 g2;refine⟨D #[K I,Z G (Bi [] (j++[(i,ln)])).2.1,Z G (Bi [] (j++[(i,ln)])).2.2],by simp[results,results13,go_sem,g0,g1,g2],I,by rw[hr.out,aM.out],?_,.inl ⟨by rw[hr.out,aM.out];exact hX.bad,rfl⟩⟩;exact hX.low.grown (grownBy_putObj' _ D0 _) hX.low.size (λk e=>by cases e;omega)
def Anu (s:ByteArray) (w:WD) (b:Mx w):CS prog 13 #[E s] w (Aal s w):=by
 by_cases a:4096<s.size
 .exact Ans s w a
 .exact Ant s w b a
def I5:Nat->List ay->ByteArray->List Int
 | _,[],_=>[]
 | k,v :: vs,p=>if Jm v.parts p=true then(k:Int)::I5 (k+1) vs p else I5 (k+1) vs p
def Cj (vs:List ay) (p:ByteArray):List Int:=I5 0 vs p
def Anv (a b:List ay) (p:ByteArray) (k:Nat):I5 k (a++b) p=I5 k a p++I5 (k+a.length) b p:=by
 induction a generalizing k with
 | nil=>simp[I5]
 | cons v a ih=>
  simp only[P1,I5,D8];rw[ih,show k+1+a.length=k+(a.length+1) by omega]
  split<;>simp
def Lw {α:Type} {l:List α}  {x:α} (h:l[k]?=O x):l.take (k+1)=l.take k++[x]:=by
 rw[Mt,h];rfl
def Aeo   {v:ay} (p:ByteArray) (h:vs[k]?=O v):Cj (vs.take (k+1)) p=Cj (vs.take k) p++(if Jm v.parts p=true then[(k:Int)]else[]):=by
 have a:=(Ap.1 h).1;unfold Cj;rw[Lw h,Anv,Dt,Mw ao9,Dm];simp only[I5]
def Anw   {v:ay} {p:ByteArray} (h:vs[k]?=O v) (a:Jm v.parts p=true):Cj (vs.take (k+1)) p=Cj (vs.take k) p++[(k:Int)]:=by
 rw[Aeo p h,Ad a]
def Anx   {v:ay} {p:ByteArray} (h:vs[k]?=O v) (a:Jm v.parts p=false):Cj (vs.take (k+1)) p=Cj (vs.take k) p:=by
 rw[Aeo p h,Ab (by rw[a];simp),N3]
def Aep (vs:List ay) (p:ByteArray) (k:Nat):(I5 k vs p).length<=vs.length:=by
 induction vs generalizing k with
 | nil=>simp[I5]
 | cons v vs ih=>
  have:=ih (k+1);simp only[I5]
  split<;>simp<;>omega
def Anz (vs:List ay) (p:ByteArray):(Cj vs p).length<=vs.length:=Aep vs p 0
def Xj (a b:V4):V4:=⟨a.a+b.a,a.b+b.b,a.c+b.c,a.d+b.d⟩
def N9 (v:ay) (p:ByteArray):Bool:=p.toList.isEmpty || Jm v.parts p
def Dx (vs:List ay) (p:ByteArray):V4:=vs.foldl (λa v=>if N9 v p=true then Xj a v.cap else a) V4.zero
structure T9 (v:V4):Prop where
 a0:0<=v.a
 a1:v.a<=1073741824
 b0:0<=v.b
 b1:v.b<=1073741824
 c0:0<=v.c
 c1:v.c<=1073741824
 d0:0<=v.d
 d1:v.d<=1073741824
structure An0 (v:V4) (n:Nat):Prop where
 a0:0<=v.a
 a1:v.a<=1073741824*n
 b0:0<=v.b
 b1:v.b<=1073741824*n
 c0:0<=v.c
 c1:v.c<=1073741824*n
 d0:0<=v.d
 d1:v.d<=1073741824*n
def An2 (l:List ByteArray) (x:ByteArray):Lib.containsS l x=Jm l x:=by
 rw[P4,Lib.containsS_iff,T3]
def Aeq (w:WD) (po:Option Addr) (pn pc:Nat) (a:List ByteArray) (s:ByteArray) (h:Fz w po pn a):CS prog 209 #[V po pn pc,E s] w λe w'=>e=Q (Y (Jm a s))/\w'=w:=by
 have i:=h.len;have l:=h.max;by_cases h0:pn=0
 .subst h0;have:a=[]:=Fv.1 i;subst this;exact Tryz.slices_Contains_string_empty po pc s w
 .obtain ⟨b,d,rfl,k,_⟩:=h.cell 0 (a[0]'(by omega)) as9;refine(Tryz.slices_Contains_string b d pn pc a s w ao9 l λj c=>?_).mono ?_
  .obtain ⟨m,f,e,_,g⟩:=h.cell j (a[j]'c) (by simp[c]);cases e;rw[g];simp[List.getD,c]
  .rintro e w' ⟨rfl,rfl⟩;rw[Dd ao9,An2];exact⟨rfl,rfl⟩
def Bj (xs:List Int):List VL:=xs.map λn=>Z G n
structure Aj (w:WD) (B:Nat) (v:VL) (xs:List Int):Prop where
 row:w.ownsRow B 3 1 v xs.length (Bj xs)
def Aer (vs:List ay) (p:ByteArray) (w:WD) (e:Ending) (w':WD):Prop:=∃v,e=Q v/\Aj w' w.heap.size v (Cj vs p)/\BW w.heap.size w w'
def Lx:(prog.info? 3).map (λi=>(i.zero,i.size,i.bytes))=O (O (Z G 0),1,8):=by kernel_rfl
def Xk (w:WD) (n:Int):∀j u,([Z G n]:List VL)[j]?=O u->(w.alloc (J #[Z G n] 3 (0,0))).cell? ((⟨w.heap.size,0,I⟩:Addr).add j)=O u:=by
 intro j u a
 match j,a with
 | 0,a=>
  have:=Aa (Ah w (J #[Z G n] 3 (0,0))) 0;simp at a;subst a;exact this
 | j+1,a=>simp at a
def Aan {xs:List aw}  {x:aw} (h:xs[k]?=O x):(xs.map aw.pl)[k]?=O x.pl:=by rw[Bm,h];rfl
def An3 (w:WD) (fb mb base:Nat) (nv:VL) (xs:List aw) (p:ByteArray) (hF:jm w fb mb base nv xs) (af:xs.length<=4096):CS prog 154 #[K (O ⟨fb,0,I⟩),E p] w (Aer (xs.map aw.pl) p w):=by
 obtain⟨i3,ao,ap,al,am⟩:=B6 Lx;obtain⟨n,hn⟩:=Ex (xs.length);have q:=Aam w fb mb base nv xs hF;rw[<-hn]at q af;replace⟨hF,hn,q⟩:=H3 hF hn q;go_enter func154,ntmps154;go_wp2_with fail;refine q.mono ?_;rintro e w1 ⟨rfl,rfl⟩;go_wp2;go_loopw [5,9] (λov i wr=>∃k:Nat,i=Z G k/\k<=n/\Hid (Aj wr w1.heap.size ov (Cj ((xs.map aw.pl).take k) p))/\Hid (BW w1.heap.size w1 wr)) (λ_ i _=>n-(intOf i).toNat)
 case atStart=>exact⟨0,rfl,Ar _,⟨rfl,.inl ⟨rfl,rfl⟩⟩,Below.refl _ _⟩
 case round=>
  obtain⟨k,rfl,hk,hO,hB⟩:=hrel;by_cases hc:k<n
  .have an:(k:Int)<n:=ao9;have aA:(0:Int)<=(k:Int):=ao9;have m:=hF.below hB.out;obtain⟨g,cap,rfl⟩:=Joins.ownsRow_form m.row (by have:=hn.out;omega);obtain⟨x,hx⟩:=Ge xs k (by have:=hn.out;omega);obtain⟨g',e1,_,_,c⟩:=m.cell hx;have e2:g=g':=(by simpa[Value.ownBlock]using e1);subst e2;have c5:wr.cell? ⟨g,k*6+5,I⟩=O (V x.po x.pn x.pc):=c 5 ao9;have f0:=Aa m.head 0;simp at f0;rw[<-hn.out]at f0;have o:=Aeq wr x.po x.pn x.pc x.parts p (m.ok x (Ai hx)).1.parts;obtain⟨b,hb⟩:=Ex (Jm x.parts p);rw[<-hb]at o;have r:=Aan hx;replace⟨m,hx,o,hb,r,c,e1⟩:=H7 m hx o hb r c e1
   cases b with
   | false=>
    have v:Aj wr w1.heap.size u5 (Cj ((xs.map aw.pl).take (k+1)) p):=(by rw[Anx r.out hb.symm];exact hO.out);replace v:=Hh v;go_wp2_with fail
    (with_reducible refine o.out.mono ?_)
    rintro e wr ⟨rfl,rfl⟩;go_wp2;go_roundw
    case rel=>exact⟨k+1,by go_num,ao9,v.out,hB.out⟩
    case measure=>simp[intOf];omega
   | true=>
    obtain⟨L,hL⟩:=Ex ((Cj ((xs.map aw.pl).take k) p).length);have av:L<=k:=(by rw[hL];refine Aw (Anz _ _) ?_;rw[Dt];omega);have j:(wr.alloc (J #[Z G (k:Int)] 3 (0,0))).ownsRow w1.heap.size 3 1 u5 L (Bj (Cj ((xs.map aw.pl).take k) p)):=(by rw[hL];exact hO.row.alloc (J #[Z G (k:Int)] 3 (0,0)));have f:=Xk wr (k:Int);have h:∀u∈([Z G (k:Int)]:List VL),u.oneCell'=true:=(by simp[Value.oneCell']);have s:=Gh (n:=L) ao9;have z:(L+1)*8<=140737488355328:=ao9;have l:w1.heap.size<=(wr.alloc (J #[Z G (k:Int)] 3 (0,0))).heap.size:=(by have:=hB.size;simp;omega);replace⟨hL,j,f,h,s,z,l⟩:=H7 hL j f h s z l;go_wp2_with fail
    (with_reducible refine o.out.mono ?_)
    rintro e wr ⟨rfl,rfl⟩;go_wp2_with (at_builtin;refine J6 _ rfl _ _ 31 rfl w1.heap.size 3 i3 _ 1 8 Nx ao ap al am rfl ad9 _ L _ rfl j.out ⟨wr.heap.size,0,I⟩ 1 1 [Z G (k:Int)] rfl rfl f.out h.out s.out z.out l.out ?_;intro v1 w7 a d _;obtain⟨g7,ad,rfl⟩:=Joins.ownsRow_form a ao9;replace⟨a,d⟩:=H2 a d);have y:Aj w7 w1.heap.size (V (O ⟨g7,0,I⟩) (L+1) ad) (Cj ((xs.map aw.pl).take (k+1)) p):=(by rw[Anw r.out hb.symm];refine⟨?_⟩;rw[Av,<-hL.out];simpa[Bj]using a.out);have t:=(hB.alloc hB.size _).grown d.out l.out (λk hk=>(hO.row.lt k hk).1);replace⟨y,t⟩:=H2 y t;go_roundw
    case rel=>exact⟨k+1,by go_num,ao9,y.out,t.out⟩
    case measure=>simp[intOf];omega
  .have an:¬(k:Int)<n:=ao9;have ac:(xs.map aw.pl).take k=xs.map aw.pl:=Dd (by rw[As];have:=hn.out;omega);replace ac:=Hh ac;go_wp2;go_ret;exact⟨u5,rfl,by have:=hO.out;rw[ac.out]at this;exact this,hB.out⟩
end
section
open Go.RowKit Go.Maps Go.Shelf Go.Sort
def Qa (xs:List ByteArray):List VL:=xs.map Value.string
structure Qb (w:WD) (B:Nat) (v:VL) (xs:List ByteArray):Prop where
 row:w.ownsRow B 9 1 v xs.length (Qa xs)
def Aes (w:WD) (B:Nat):Qb w B (V I 0 0) []:=⟨rfl,.inl ⟨rfl,rfl⟩⟩
end
section
open Go.RowKit Go.Maps Go.Shelf
variable{p q:ByteArray}{xs:List Int}{vs:List ay}{n:Nat}{so:Option Addr}{W w:WD}
structure jd (w:WD) (v:V4) (W:WD):Prop where
 low:BW w.heap.size w W
 r0:W.heap[w.heap.size]?=O (J V4.zero.cells 30 (0,0))
 r1:W.heap[w.heap.size+1]?=O (J v.cells 30 (0,0))
def jd.set  {v a:V4} (h:jd w v W) (o:Nat) (x:VL) (e:v.cells.setIfInBounds o x=a.cells):jd w a (W.setCell ⟨w.heap.size+1,o,I⟩ x):=
 ⟨h.low.setCell (D9 _) _,Dg (Nat.ne_of_lt (Nat.lt_succ_self _)) _ h.r0,by rw[Am h.r1,e]⟩
def K3 (u c:V4) (k:Nat):V4:=⟨if 0<k then u.a+c.a else u.a,if 1<k then u.b+c.b else u.b,if 2<k then u.c+c.c else u.c,if 3<k then u.d+c.d else u.d⟩
def Aao (vs:List ay) (p:ByteArray) (w:WD) (e:Ending) (w':WD):Prop:=e=Q (Dx vs p).val/\BW w.heap.size w w'
structure An4 (v:ay):Prop where
 ok:Aek v
 gg:v.parts.length<=8
 once:P9 v.parts=false
structure Kd (vs:List ay):Prop where
 len:vs.length<=16
 all:∀v,v∈vs->An4 v
 nodup:(vs.map ay.name).Nodup
def An5:Kd []:=⟨as9,λv h=>(by cases h),as9⟩
def An6 {b:List ByteArray} {m:Nat} {a:ByteArray} {parts:List ByteArray} (h:Ea b m a parts=0):a∉b/\P9 parts=false/\m<16/\parts.length<=8:=by
 unfold Ea at h;split at h
 .cases h
 .next h1=>
  split at h
  .cases h
  .next h2=>
   split at h
   .cases h
   .next h3=>exact⟨λc=>h1 (T3.2 c),by simpa using h2,ao9,ao9⟩
def An7 (l:List (Int×ByteArray)):∀xs,Kd xs->Kd (Bi xs l).1:=by
 induction l with
 | nil=>intro xs h;exact h
 | cons x l ih=>
  intro xs h;obtain⟨i,b⟩:=x;simp only[Bi]
  cases hn:I2 b with
  | none=>exact h
  | some v=>
   simp only;by_cases c:Ea (xs.map ay.name) xs.length v.name v.parts=0
   .rw [Ad c];obtain⟨f,g,n,j⟩:=An6 c;refine ih _ ⟨by simp;omega,λy d=>?_,?_⟩
    .rcases C7.1 d with d|d
     .exact h.all y d
     .have:y=v:=by simpa using d
      subst this;exact⟨Ael hn,j,g⟩
    .rw [Dw,Rm];refine⟨h.nodup,as9,λa k b m=>?_⟩
     have:b=v.name:=by simpa using m
     subst this;exact λe=>f (by rw[<-e];exact k)
   .rw [Ab c];exact h
def Ua {v:V4} (h:v.right=true):T9 v:=by
 simp only[V4.right,oz,D7,Iu]at h;exact⟨h.1.1.1.1,h.1.1.1.2,h.1.1.2.1,h.1.1.2.2,h.1.2.1,h.1.2.2,h.2.1,h.2.2⟩
def Aet  {a b base:Nat}  (h:lg w a b base vs):CS prog 43 #[K (O ⟨a,0,I⟩)] w λe w'=>e=Q (Z G (vs.length:Int))/\w'=w:=by
 obtain⟨c,xs,h1,rfl,d⟩:=h.ex;rw[As];exact Aam w a b base c xs h1
def Aeu  {a c base:Nat}  (h:lg w a c base vs) (b:Kd vs) (p:ByteArray):CS prog 154 #[K (O ⟨a,0,I⟩),E p] w (Aer vs p w):=by
 obtain⟨d,xs,h1,rfl,e⟩:=h.ex;have:=b.len;rw[As]at this;exact An3 w a c base d xs p h1 ao9
def An8  (h:p=q):(p.toList == q.toList)=true:=by rw[h];simp
def Aex  (h:p≠q):(p.toList == q.toList)=false:=by
 simp only[Bh];intro e;rw[Lib.toList_data,Lib.toList_data]at e;exact h (O1 e)
def A3v  (h:p=q):(p.toList != q.toList)=false:=by simp[bne,An8 h]
def A3w  (h:p≠q):(p.toList != q.toList)=true:=by simp[bne,Aex h]
structure Ao (w:WD) (so:Option Addr) (n:Nat) (xs:List Int):Prop where
 len:xs.length=n
 max:n<=9223372036854775807
 cell:∀i x,xs[i]?=O x->∃b off,so=O ⟨b,off,I⟩/\b<w.heap.size/\w.cell? ⟨b,off+i,I⟩=O (Z G x)
def Ao.low {w w':WD}    (h:Ao w so n xs) (d:BW w.heap.size w w'):Ao w' so n xs:=
 ⟨h.len,h.max,λi x g=>by
  obtain⟨b,c,e,a,f⟩:=h.cell i x g
  exact⟨b,c,e,B4 a d.size,(Af d a).trans f⟩⟩
def Ao.get     (h:Ao w so n xs) {i:Nat} (a:i<n):=Ge xs i (by rw[h.len];exact a)
def Aey  {B:Nat} {v:VL}  (h:Aj w B v xs):∃so c,v=V so xs.length c/\Ao w so xs.length xs:=by
 rcases h.row.2 with⟨a,h0⟩|⟨g,cap,e,a,j,f,m,l,n⟩
 .have:xs=[]:=Fv.1 h0;subst this;exact⟨I,0,a,rfl,as9,λi x b=>by simp at b⟩
 .refine ⟨O ⟨g,0,I⟩,cap,a,rfl,by have:maxLen=9223372036854775807:=rfl;omega,λi x b=>⟨g,0,rfl,Ac f,?_⟩⟩;have k:=(Ap.1 b).1;have d:=h.row;rw[a]at d;rw[Dm,Fw d i ao9,Bj,Bm,b];rfl
def tz (v:V4) (k:Nat):V4:=⟨if 0<k then v.a else 0,if 1<k then v.b else 0,if 2<k then v.c else 0,if 3<k then v.d else 0⟩
def Ayr  {k:Nat} {v:ay} (p:ByteArray) (h:vs[k]?=O v):Dx (vs.take (k+1)) p=if N9 v p=true then Xj (Dx (vs.take k) p) v.cap else Dx (vs.take k) p:=by
 unfold Dx;rw[Lw h,N1];rfl
def Akz  (p:ByteArray) (h:∀v,v∈vs->T9 v.cap):An0 (Dx vs p) vs.length:=by
 induction vs using P8 with
 | h0=>constructor<;>simp[Dx,V4.zero]
 | h1 l x ih=>
  have a:=ih λv b=>h v (by simp[b]);have c:=h x as9;have e:Dx (l++[x]) p=if N9 x p=true then Xj (Dx l p) x.cap else Dx l p:=by unfold Dx;rw[N1];rfl
  rw[e,Av,D8,Ib];obtain⟨d,f,g,i,j,k,m,n⟩:=a;obtain⟨o,q,r,s,t,u,y,z⟩:=c
  split<;>constructor<;>(try simp only[Xj])<;>omega
def Ays  {v:V4} (h:jd w v W):BW w.heap.size w ((((W.setCell ⟨w.heap.size,0,I⟩ (Z G v.a)).setCell ⟨w.heap.size,1,I⟩ (Z G v.b)).setCell ⟨w.heap.size,2,I⟩ (Z G v.c)).setCell ⟨w.heap.size,3,I⟩ (Z G v.d)):=
 (((h.low.setCell Ln _).setCell Ln _).setCell Ln _).setCell Ln _
def Ak0 (a b c d:Int) (w:WD):(Instr.index 30 (.agg #[Z G a,Z G b,Z G c,Z G d]) (Z G 0)).run prog w=.ok (Z G a) w:=by kernel_rfl
def Ak1 (a b c d:Int) (w:WD):(Instr.index 30 (.agg #[Z G a,Z G b,Z G c,Z G d]) (Z G 1)).run prog w=.ok (Z G b) w:=by kernel_rfl
def Ak2 (a b c d:Int) (w:WD):(Instr.index 30 (.agg #[Z G a,Z G b,Z G c,Z G d]) (Z G 2)).run prog w=.ok (Z G c) w:=by kernel_rfl
def Ak3 (a b c d:Int) (w:WD):(Instr.index 30 (.agg #[Z G a,Z G b,Z G c,Z G d]) (Z G 3)).run prog w=.ok (Z G d) w:=by kernel_rfl
def Ayt (w:WD) (fb mb base:Nat) (nv:VL) (xs:List aw) (p:ByteArray) (hF:jm w fb mb base nv xs) (aH:xs.length<=4096) (al:∀x,x∈xs->T9 x.cap):CS prog 191 #[K (O ⟨fb,0,I⟩),E p] w (Aao (xs.map aw.pl) p w):=by
 obtain⟨n,hn⟩:=Ex (xs.length);have ap:jd w V4.zero ((w.alloc (J V4.zero.cells 30 (0,0))).alloc (J V4.zero.cells 30 (0,0))):=⟨Bn.alloc as9 _,Ak _ (Ah _ _),A2 _ _ as9⟩;have av:=Aam _ fb mb base nv xs (hF.below ap.low);rw[<-hn]at av aH
 have aC:∀v,v∈xs.map aw.pl->T9 v.cap:=λv hv=>by
  obtain⟨x,hx,rfl⟩:=A7.1 hv;exact al x hx
 replace⟨hF,hn,av,ap,aC,al⟩:=H6 hF hn av ap aC al;go_enter func191,ntmps191;go_wp2_with fail;refine av.mono ?_;rintro e w1 ⟨rfl,rfl⟩;go_wp2;go_loopw [11] (λi wr=>∃k:Nat,i=Z G k/\k<=n/\Hid (jd w (Dx ((xs.map aw.pl).take k) p) wr)) (λi _=>n-(intOf i).toNat)
 case atStart=>exact⟨0,rfl,Ar _,ap.out⟩
 case round=>
  obtain⟨k,rfl,hk,hT⟩:=hrel;by_cases hc:k<n
  .have aI:(k:Int)<n:=ao9;have aL:(0:Int)<=(k:Int):=ao9;have am:=hF.below hT.low;obtain⟨g,cap,rfl⟩:=Joins.ownsRow_form am.row (by have:=hn.out;omega);obtain⟨x,hx⟩:=Ge xs k (by have:=hn.out;omega);obtain⟨g',e1,aK,aJ,o⟩:=am.cell hx;have e2:g=g':=(by simpa[Value.ownBlock]using e1);subst e2;have c1:wr.cell? ⟨g,k*6+1,I⟩=O (Z G x.cap.a):=o 1 ao9;have c2:wr.cell? ⟨g,k*6+2,I⟩=O (Z G x.cap.b):=o 2 ao9;have c3:wr.cell? ⟨g,k*6+3,I⟩=O (Z G x.cap.c):=o 3 ao9;have c4:wr.cell? ⟨g,k*6+4,I⟩=O (Z G x.cap.d):=o 4 ao9;have c5:wr.cell? ⟨g,k*6+5,I⟩=O (V x.po x.pn x.pc):=o 5 ao9;have f0:=Aa am.head 0;simp at f0;rw[<-hn.out]at f0;have an:=Aeq wr x.po x.pn x.pc x.parts p (am.ok x (Ai hx)).1.parts;obtain⟨b,hb⟩:=Ex (Jm x.parts p);rw[<-hb]at an;have aF:=Aan hx;have aG:=Ayr p aF;have aA:=Akz (vs:=(xs.map aw.pl).take k) p (λv hv=>aC.out v (Ms hv));have aD:=al x (Ai hx);have ao:((xs.map aw.pl).take k).length=k:=(by rw[Dt,As];have:=hn.out;omega);rw[ao]at aA;replace⟨am,hx,an,hb,aF,o,e1,aG⟩:=H8 am hx an hb aF o e1 aG;replace⟨aA,aD,ao⟩:=H3 aA aD ao;obtain⟨U,hU⟩:=Ex (Dx ((xs.map aw.pl).take k) p);have m:=hT.out;have aB:=aA.out;have ac:=aG.out;rw[<-hU]at m aB ac;obtain⟨nm,⟨r,s,t,u⟩,po,pn,pc,ps⟩:=x;obtain⟨ua,ub,uc,ud⟩:=U;obtain⟨v1,v2,v3,v4,v5,v6,v7,v8⟩:=aB;obtain⟨x1,x2,x3,x4,x5,x6,x7,x8⟩:=aD.out;simp only at v1 v2 v3 v4 v5 v6 v7 v8 x1 x2 x3 x4 x5 x6 x7 x8 c1 c2 c3 c4;have y1:ua<=4398046511104:=ao9;have y2:ub<=4398046511104:=ao9;have y3:uc<=4398046511104:=ao9;have y4:ud<=4398046511104:=ao9;clear v2 v4 v6 v8;replace⟨hU,m,ac,hT⟩:=H4 hU m ac hT
   cases hp:p.toList.isEmpty with
   | true=>
    have z:N9 (aw.pl ⟨nm,⟨r,s,t,u⟩,po,pn,pc,ps⟩) p=true:=(by unfold N9;rw[hp];rfl);replace z:=Hh z;go_wp2_with fail;have y:jd w (K3 ⟨ua,ub,uc,ud⟩ ⟨r,s,t,u⟩ 0) wr:=m.out;replace y:=Hh y;go_loopw [37] (λi wq=>∃j:Nat,j<=4/\i=Z G j/\Hid (jd w (K3 ⟨ua,ub,uc,ud⟩ ⟨r,s,t,u⟩ j) wq)) (λi _=>4-(intOf i).toNat)
    case atStart=>exact⟨0,ao9,rfl,y.out⟩
    case round=>
     obtain⟨j,hj,l,q⟩:=hrel;rcases(show j=0\/j=1\/j=2\/j=3\/j=4 by omega)with rfl|rfl|rfl|rfl|rfl
     .have h:u37=Z G 0:=l;clear l;subst h;have af:=λw=>Ak0 r s t u w;have q0:=Bk q.r1 0 (Z G ua) rfl;have f0:=Ag q.r1 0;have f:jd w (K3 ⟨ua,ub,uc,ud⟩ ⟨r,s,t,u⟩ 1) (wr.setCell ⟨w.heap.size+1,0,I⟩ (Z G (ua+r))):=q.set 0 _ rfl;replace f:=Hh f;go_wp2;go_roundw
      case rel=>exact⟨1,ao9,rfl,f.out⟩
      case measure=>simp[intOf]
     .have h:u37=Z G 1:=l;clear l;subst h;have af:=λw=>Ak1 r s t u w;have q1:=Bk q.r1 1 (Z G ub) rfl;have f1:=Ag q.r1 1;have f:jd w (K3 ⟨ua,ub,uc,ud⟩ ⟨r,s,t,u⟩ 2) (wr.setCell ⟨w.heap.size+1,1,I⟩ (Z G (ub+s))):=q.set 1 _ rfl;replace f:=Hh f;go_wp2;go_roundw
      case rel=>exact⟨2,ao9,rfl,f.out⟩
      case measure=>simp[intOf]
     .have h:u37=Z G 2:=l;clear l;subst h;have af:=λw=>Ak2 r s t u w;have q2:=Bk q.r1 2 (Z G uc) rfl;have f2:=Ag q.r1 2;have f:jd w (K3 ⟨ua,ub,uc,ud⟩ ⟨r,s,t,u⟩ 3) (wr.setCell ⟨w.heap.size+1,2,I⟩ (Z G (uc+t))):=q.set 2 _ rfl;replace f:=Hh f;go_wp2;go_roundw
      case rel=>exact⟨3,ao9,rfl,f.out⟩
      case measure=>simp[intOf]
     .have h:u37=Z G 3:=l;clear l;subst h;have af:=λw=>Ak3 r s t u w;have q3:=Bk q.r1 3 (Z G ud) rfl;have f3:=Ag q.r1 3;have f:jd w (K3 ⟨ua,ub,uc,ud⟩ ⟨r,s,t,u⟩ 4) (wr.setCell ⟨w.heap.size+1,3,I⟩ (Z G (ud+u))):=q.set 3 _ rfl;replace f:=Hh f;go_wp2;go_roundw
      case rel=>exact⟨4,ao9,rfl,f.out⟩
      case measure=>simp[intOf]
     .have h:u37=Z G 4:=l;clear l;subst h;have ad:jd w (Dx ((xs.map aw.pl).take (k+1)) p) wr:=(by rw[ac.out,Ad z.out];exact q.out);replace ad:=Hh ad;go_wp2;go_roundw
      case rel=>exact⟨k+1,by go_num,ao9,ad.out⟩
      case measure=>simp[intOf];omega
   | false=>
    cases b with
    | true=>
     have z:N9 (aw.pl ⟨nm,⟨r,s,t,u⟩,po,pn,pc,ps⟩) p=true:=(by unfold N9;rw[hp];exact hb.symm);replace z:=Hh z;go_wp2_with fail
     (with_reducible refine an.out.mono ?_)
     rintro e wr ⟨rfl,rfl⟩;go_wp2;have y:jd w (K3 ⟨ua,ub,uc,ud⟩ ⟨r,s,t,u⟩ 0) wr:=m.out;replace y:=Hh y;go_loopw [37] (λi wq=>∃j:Nat,j<=4/\i=Z G j/\Hid (jd w (K3 ⟨ua,ub,uc,ud⟩ ⟨r,s,t,u⟩ j) wq)) (λi _=>4-(intOf i).toNat)
     case atStart=>exact⟨0,ao9,rfl,y.out⟩
     case round=>
      obtain⟨j,hj,l,q⟩:=hrel;rcases(show j=0\/j=1\/j=2\/j=3\/j=4 by omega)with rfl|rfl|rfl|rfl|rfl
      .have h:u37=Z G 0:=l;clear l;subst h;have af:=λw=>Ak0 r s t u w;have q0:=Bk q.r1 0 (Z G ua) rfl;have f0:=Ag q.r1 0;have f:jd w (K3 ⟨ua,ub,uc,ud⟩ ⟨r,s,t,u⟩ 1) (wr.setCell ⟨w.heap.size+1,0,I⟩ (Z G (ua+r))):=q.set 0 _ rfl;replace f:=Hh f;go_wp2;go_roundw
       case rel=>exact⟨1,ao9,rfl,f.out⟩
       case measure=>simp[intOf]
      .have h:u37=Z G 1:=l;clear l;subst h;have af:=λw=>Ak1 r s t u w;have q1:=Bk q.r1 1 (Z G ub) rfl;have f1:=Ag q.r1 1;have f:jd w (K3 ⟨ua,ub,uc,ud⟩ ⟨r,s,t,u⟩ 2) (wr.setCell ⟨w.heap.size+1,1,I⟩ (Z G (ub+s))):=q.set 1 _ rfl;replace f:=Hh f;go_wp2;go_roundw
       case rel=>exact⟨2,ao9,rfl,f.out⟩
       case measure=>simp[intOf]
      .have h:u37=Z G 2:=l;clear l;subst h;have af:=λw=>Ak2 r s t u w;have q2:=Bk q.r1 2 (Z G uc) rfl;have f2:=Ag q.r1 2;have f:jd w (K3 ⟨ua,ub,uc,ud⟩ ⟨r,s,t,u⟩ 3) (wr.setCell ⟨w.heap.size+1,2,I⟩ (Z G (uc+t))):=q.set 2 _ rfl;replace f:=Hh f;go_wp2;go_roundw
       case rel=>exact⟨3,ao9,rfl,f.out⟩
       case measure=>simp[intOf]
      .have h:u37=Z G 3:=l;clear l;subst h;have af:=λw=>Ak3 r s t u w;have q3:=Bk q.r1 3 (Z G ud) rfl;have f3:=Ag q.r1 3;have f:jd w (K3 ⟨ua,ub,uc,ud⟩ ⟨r,s,t,u⟩ 4) (wr.setCell ⟨w.heap.size+1,3,I⟩ (Z G (ud+u))):=q.set 3 _ rfl;replace f:=Hh f;go_wp2;go_roundw
       case rel=>exact⟨4,ao9,rfl,f.out⟩
       case measure=>simp[intOf]
      .have h:u37=Z G 4:=l;clear l;subst h;have ad:jd w (Dx ((xs.map aw.pl).take (k+1)) p) wr:=(by rw[ac.out,Ad z.out];exact q.out);replace ad:=Hh ad;go_wp2;go_roundw
       case rel=>exact⟨k+1,by go_num,ao9,ad.out⟩
       case measure=>simp[intOf];omega
    | false=>
     have z:N9 (aw.pl ⟨nm,⟨r,s,t,u⟩,po,pn,pc,ps⟩) p=false:=(by unfold N9;rw[hp];exact hb.symm);have y:jd w (Dx ((xs.map aw.pl).take (k+1)) p) wr:=(by rw[ac.out,Ab (by rw[z];simp)];exact m.out);replace⟨z,y⟩:=H2 z y;go_wp2_with fail
     (with_reducible refine an.out.mono ?_)
     rintro e wr ⟨rfl,rfl⟩;go_wp2;go_roundw
     case rel=>exact⟨k+1,by go_num,ao9,y.out⟩
     case measure=>simp[intOf];omega
  .have aI:¬(k:Int)<n:=ao9;have aE:(xs.map aw.pl).take k=xs.map aw.pl:=Dd (by rw[As];have:=hn.out;omega);have m:=hT.out;rw[aE]at m;obtain⟨U,hU⟩:=Ex (Dx (xs.map aw.pl) p);rw[<-hU]at m;obtain⟨ua,ub,uc,ud⟩:=U;have r1:=m.r1;have a0:=Bk r1 0 (Z G ua) rfl;have a1:=Bk r1 1 (Z G ub) rfl;have a2:=Bk r1 2 (Z G uc) rfl;have a3:=Bk r1 3 (Z G ud) rfl;have r0:=m.r0;have b0:=Bk r0 0 (Z G 0) rfl;have b1:=Bk r0 1 (Z G 0) rfl;have b2:=Bk r0 2 (Z G 0) rfl;have b3:=Bk r0 3 (Z G 0) rfl;have fr:=Ag m.r0;have e:=Ays m;replace⟨aE,m,hU,hT,r1,r0,e⟩:=H7 aE m hU hT r1 r0 e;go_wp2;refine An (v:=V4.val ⟨ua,ub,uc,ud⟩) (by simp[results,results191,go_sem,b0,b1,b2,b3]) rfl ⟨?_,e.out⟩;rw[hU.out]
def Ayu  {b c base:Nat}  (h:lg w b c base vs) (a:Kd vs) (p:ByteArray):CS prog 191 #[K (O ⟨b,0,I⟩),E p] w (Aao vs p w):=by
 obtain⟨e,xs,h1,rfl,f⟩:=h.ex;have:=a.len;rw[As]at this;exact Ayt w b c base e xs p h1 ao9 λx d=>Ua (a.all x.pl (It d)).ok.cap
