/- Parts of a proof. No condition. -/
import Derived.Test.YtimlcnhcjndijaaGreatDoorJ07
import Derived.Test.YtimlcnhcjndijaaGreatDoorJ09
import Derived.Maps.OwnIn
set_option linter.all false
set_option maxRecDepth 100000
set_option maxHeartbeats 6400000
namespace Go.Proofs.YtimlcnhcjndijaaGreatDoor
open Value renaming pointer->K,string->D,int->Z,slice->V,tuple->E,bool->Q
open Option renaming some->O,none->I
open Obj renaming cells->J
open Ending renaming returned->Y
open IntKind renaming i64->G
open Go renaming World->WD,Value->VL,Calls->CS
open Go.RowKit renaming Below->BW
open Go.Proofs.Tryz
section
open Go.RowKit Go.Maps Go.Lib
def Ap3 (s:ByteArray) (w:WD):CS prog 40 #[D s] w λe w'=>e=Y (.func (.func 75) #[] #[K (O ⟨w.heap.size,0,I⟩)])/\w'=w.alloc (J #[D s] 9 (0,0)):=by
 go_enter func40,ntmps40;go_wp2;go_ret;exact⟨rfl,rfl⟩
def Bo:List ar->List (Int×ByteArray)->List ar×Int×Int
 | xs,[]=>(xs,0,0)
 | xs,(i,l)::ls=>
  match Jp l with
  | none=>(xs,50,i)
  | some v=>if Dv (xs.map ar.name) xs.length v.name v.parts=0 then Bo (xs++[v]) ls else(xs,Dv (xs.map ar.name) xs.length v.name v.parts,i)
def E5 (s:ByteArray):List ar×Int×Int:=if 4096<s.size then([],2,0)else Bo [] (Gi s)
def X3 (xs:List ar) (l m:List (Int×ByteArray)) (h:(Bo xs l).2.1=0):Bo xs (l++m)=Bo (Bo xs l).1 m:=by
 induction l generalizing xs with
 | nil=>rfl
 | cons x l ih=>
  obtain⟨i,b⟩:=x;show Bo xs ((i,b)::(l++m))=_;simp only[Bo]at h ⊢
  cases hn:Jp b with
  | none=>rw[hn]at h;simp at h
  | some v=>
   rw[hn]at h;simp only at h ⊢;by_cases c:Dv (xs.map ar.name) xs.length v.name v.parts=0
   .rw [Ad c]at h ⊢;rw[Ad c];exact ih _ h
   .rw [Ac c]at h;exact absurd h c
end
section
open Go.RowKit Go.Maps Go.Shelf
variable{vs:List ar}{k:Nat}{row:Option Nat}{W w w':WD}
structure lu (W:WD) (fb mb base:Nat) (vs:List ar):Prop where
 ex:∃nv xs,lh W fb mb base nv xs/\xs.map aq.pl=vs/\∀x,x∈xs->∀b off,x.po=O ⟨b,off,I⟩->base<=b
def lu.below  {a b base:Nat}  (h:lu w a b base vs) (e:BW w.heap.size w w'):lu w' a b base vs:=by
 obtain⟨f,xs,h1,c,d⟩:=h.ex;exact⟨f,xs,h1.below e,c,d⟩
def Ap4  {l n base:Nat} {r:VL} {xs:List aq}  (h:lh w l n base r xs) (p:w.grownBy w' row) (t:row≠O n)
  (u:∀x,x∈xs->∀b a,x.po=O ⟨b,a,I⟩->base<=b) (d:∀(k:Nat) (c:Array VL) (T:TypeId) (fr:Nat×Nat),(k=l\/base<=k)->w.heap[k]?=O (J c T fr)->w'.heap[k]?=O (J c T fr)):lh w' l n base r xs:=by
 refine⟨d _ _ _ _ (.inl rfl) h.head,⟨h.row.1,?_⟩,h.map.kept p (Qy t),λx i=>?_⟩
 .rcases h.row.2 with h|⟨g,cap,j,y,f,s,v⟩
  .exact .inl h
  .exact .inr ⟨g,cap,j,y,f,d _ _ _ _ (.inr f) s,v⟩
 .have q:∀b a,x.po=O ⟨b,a,I⟩->∃c,w.heap[b]?=O (J c 9 (0,0))/\w'.heap[b]?=O (J c 9 (0,0)):=λb a e=>by
   obtain⟨c,o⟩:=(h.ok x i).2 b a e;exact⟨c,o,d _ _ _ _ (.inr (u x i b a e)) o⟩
  refine⟨⟨Oy (h.ok x i).1.parts p.size λb a e _=>?_,(h.ok x i).1.lr⟩,λb a e=>?_⟩
  .obtain ⟨c,h1,m⟩:=q b a e;rw[h1,m]
  .obtain ⟨c,_,m⟩:=q b a e;exact⟨c,m⟩
def Af8 (xs:List ar) (l m:List (Int×ByteArray)) (h:(Bo xs l).2.1≠0):Bo xs (l++m)=Bo xs l:=by
 induction l generalizing xs with
 | nil=>exact absurd rfl h
 | cons x l ih=>
  obtain⟨i,b⟩:=x;show Bo xs ((i,b)::(l++m))=_;simp only[Bo]at h ⊢
  cases hn:Jp b with
  | none=>rfl
  | some v=>
   rw[hn]at h;simp only at h ⊢;by_cases c:Dv (xs.map ar.name) xs.length v.name v.parts=0
   .rw [Ad c]at h ⊢;rw[Ad c];exact ih _ h
   .rw [Ac c,Ac c]
def Af9 {xs:List ar} {i:Int} {l:ByteArray} (h:Jp l=I):Bo xs [(i,l)]=(xs,50,i):=by
 simp only[Bo,h]
def Aga {xs:List ar} {i:Int} {l:ByteArray} {v:ar} (h:Jp l=O v) (a:Dv (xs.map ar.name) xs.length v.name v.parts=0):Bo xs [(i,l)]=(xs++[v],0,0):=by
 simp only[Bo,h,Ad a]
def Agb {xs:List ar} {i:Int} {l:ByteArray} {v:ar} (h:Jp l=O v) (a:Dv (xs.map ar.name) xs.length v.name v.parts≠0):Bo xs [(i,l)]=(xs,Dv (xs.map ar.name) xs.length v.name v.parts,i):=by
 simp only[Bo,h,Ac a]
structure qq (w:WD) (pre:List (Int×ByteArray)) (W:WD):Prop where
 fl:lu W (w.heap.size+4) (w.heap.size+3) (w.heap.size+7) (Bo [] pre).1
 ok:(Bo [] pre).2.1=0
 low:BW w.heap.size w W
 mx:Mx W
 c0:W.heap[w.heap.size]?=O (J #[K I] 23 (0,0))
 c1:W.heap[w.heap.size+1]?=O (J #[Z G 0] 24 (0,0))
 c2:W.heap[w.heap.size+2]?=O (J #[Z G 0] 3 (0,0))
 fx:W.heap[w.heap.size+5]?=O (J #[K (O ⟨w.heap.size+4,0,I⟩)] 23 (0,0))
 sz:w.heap.size+7<=W.heap.size
structure xh (w:WD) (pre:List (Int×ByteArray)) (W:WD):Prop where
 low:BW w.heap.size w W
 bad:(Bo [] pre).2.1≠0
 c0:W.heap[w.heap.size]?=O (J #[K I] 23 (0,0))
 c1:W.heap[w.heap.size+1]?=O (J #[Z G (Bo [] pre).2.1] 24 (0,0))
 c2:W.heap[w.heap.size+2]?=O (J #[Z G (Bo [] pre).2.2] 3 (0,0))
 sz:w.heap.size+7<=W.heap.size
def xg (w W:WD) (row:Option Nat):Prop:=∀r,row=O r->r=w.heap.size+6\/(w.heap.size+7<=r/\∃o:Obj,W.heap[r]?=O o/\o.isCells=false)
def P1 {w W a:WD}  (f:W.grownBy a row) (i:xg w W row)  {c:Array VL} {T:TypeId} {fr:Nat×Nat} (g:k≠w.heap.size+6) (h:W.heap[k]?=O (J c T fr)):a.heap[k]?=O (J c T fr):=
 (f.block k (Ab h) (λe=>by
  rcases i k e.symm with e|⟨_,o,b,d⟩
  .exact g e
  .rw [h]at b;cases b;simp[Obj.isCells]at d)).trans h
def Agc {w W a:WD}  (b:W.grownBy a row) (c:xg w W row) (h:BW w.heap.size w W):BW w.heap.size w a:=
 h.grown b h.size (λk e=>by rcases c k e with e|⟨e,_⟩<;>omega)
def qq.grown {w W f:WD} {d:List (Int×ByteArray)}  (h:qq w d W) (a:W.grownBy f row) (b:xg w W row):qq w d f:=by
 obtain⟨l,xs,h1,i,g⟩:=h.fl.ex;refine⟨⟨l,xs,Ap4 h1 a (λe=>?_) g (λk c T fr m j=>P1 a b ao9 j),i,g⟩,h.ok,Agc a b h.low,?_,P1 a b ao9 h.c0,P1 a b ao9 h.c1,P1 a b ao9 h.c2,P1 a b ao9 h.fx,A8 h.sz a.size⟩
 .rcases b _ e with e|⟨e,_⟩<;>omega
 .refine h.mx.mh (a.block 0 h.mx.pos (λe=>?_));have:=h.sz
  rcases b _ e.symm with e|⟨e,_⟩<;>omega
def xh.grown {w W d:WD} {b:List (Int×ByteArray)}  (h:xh w b W) (a:W.grownBy d row) (c:xg w W row):xh w b d:=
 ⟨Agc a c h.low,h.bad,P1 a c ao9 h.c0,P1 a c ao9 h.c1,P1 a c ao9 h.c2,A8 h.sz a.size⟩
def qq.below {w W c:WD} {b:List (Int×ByteArray)} (h:qq w b W) (a:BW W.heap.size W c):qq w b c:=
 ⟨h.fl.below a,h.ok,h.low.trans (a.mono h.low.size),h.mx.low a,Ae a h.c0 (Ab h.c0),Ae a h.c1 (Ab h.c1),Ae a h.c2 (Ab h.c2),Ae a h.fx (Ab h.fx),A8 h.sz a.size⟩
def Kq.keeps {b f base j B:Nat} {W a:WD} (h:Kq b f base j W a) (l:b<B) (n:f<B) (i:W.heap.size<=a.heap.size):KeepsFrom B W a:=
 ⟨i,λk o m g d=>h.same k o g ao9 ao9 (.inr λc fr e=>by rw[e]at d;simp[Obj.isCells]at d)⟩
def Kq.au {b d base j k:Nat} {W a:WD} (h:Kq b d base j W a) (g:k<W.heap.size) (f:k≠b) (i:k≠d) (e:k<base):a.heap[k]?=W.heap[k]?:=by
 obtain⟨o,c⟩:∃o,W.heap[k]?=O o:=⟨_,Pn g⟩;rw[c];exact h.same k o c i f (.inl e)
def Ap5 (n:Nat) (b:List (List UInt8)):∀x,x∈D6 n b->∃p,p∈b/\x.2=bu p:=by
 induction b generalizing n with
 | nil=>intro x a;simp[D6]at a
 | cons p b ih=>
  intro x a;simp only[D6]at a
  have c:x∈D6 (n+1) b->∃q,q∈p :: b/\x.2=bu q:=λh=>by
   obtain⟨q,h1,d⟩:=ih _ x h;exact⟨q,B2 _ h1,d⟩
  split at a
  .rcases Fm.1 a with rfl|h
   .exact ⟨p,Ci ..,rfl⟩
   .exact c h
  .exact c a
def Ap6 {s:ByteArray} {x:Int×ByteArray} (h:x∈Gi s):x.2.size<=s.size:=by
 obtain⟨p,h1,a⟩:=Ap5 0 _ x h;have:=Xt h1;rw[a,L4,<-Q0 s];exact this
structure Agd (v:ar):Prop where
 name:Bu v.name=true
 parts:∀p,p∈v.parts->Bu p=true
 one:1<=v.parts.length
 cap:v.cap.right=true
def Ap7 {s:ByteArray} (h:Bu s=true):s.size<=16:=by
 simp only[Bu,Da,F2]at h;exact h.1.2
def Age {s:ByteArray} {v:ar} (h:Jp s=O v):Agd v:=by
 by_cases c:J4 s
 .rw [Xs c]at h;cases h;obtain⟨h1,b,d,a⟩:=c;refine⟨b,d,by simp;omega,?_⟩;show(Fo (iq s 1)).1.right=true;unfold Fo at a ⊢;split at a
  .next hl=>
   rw[Ad hl];unfold V4.told at a ⊢;split at a
   .next hr=>rw[Ad hr];exact hr
   .cases a
  .cases a
 .rw [Q2 c]at h;cases h
def Ap8 {s:ByteArray} {v:ar} (h:Jp s=O v):v.parts.length<=s.size+1:=by
 by_cases c:J4 s
 .rw [Xs c]at h;cases h;have:=Abe s;simp;omega
 .rw [Q2 c]at h;cases h
def Agf (xs:List ar) (l:List (Int×ByteArray)) (h:(Bo xs l).2.1=0):(Bo xs l).2.2=0:=by
 induction l generalizing xs with
 | nil=>rfl
 | cons x l ih=>
  obtain⟨i,b⟩:=x;simp only[Bo]at h ⊢
  cases hn:Jp b with
  | none=>rw[hn]at h;simp at h
  | some v=>
   rw[hn]at h;simp only at h ⊢;by_cases c:Dv (xs.map ar.name) xs.length v.name v.parts=0
   .rw [Ad c]at h ⊢;exact ih _ h
   .rw [Ac c]at h;exact absurd h c
structure S3 (R:Nat) (W W':WD) (p:VL) (e i:Int):Prop where
 size:W'.heap.size=W.heap.size
 c0:W'.heap[R]?=O (J #[p] 23 (0,0))
 c1:W'.heap[R+1]?=O (J #[Z G e] 24 (0,0))
 c2:W'.heap[R+2]?=O (J #[Z G i] 3 (0,0))
 other:∀(k:Nat) (o:Obj),W.heap[k]?=O o->k≠R->k≠R+1->k≠R+2->W'.heap[k]?=O o
 low:∀w,BW R w W->BW R w W'
 back:∀(k:Nat),k≠R->k≠R+1->k≠R+2->W'.heap[k]?=W.heap[k]?
def Fd  {b o k:Nat} {v:VL} (h:k≠b):(W.setCell ⟨b,o,I⟩ v).heap[k]?=W.heap[k]?:=C1 _ _ _ _ h
def Abl {R:Nat}  {a b c:VL} (h0:W.heap[R]?=O (J #[a] 23 (0,0))) (h1:W.heap[R+1]?=O (J #[b] 24 (0,0))) (l:W.heap[R+2]?=O (J #[c] 3 (0,0))) (p:VL) (e i:Int) :
  S3 R W (((W.setCell ⟨R,0,I⟩ p).setCell ⟨R+1,0,I⟩ (Z G e)).setCell ⟨R+2,0,I⟩ (Z G i)) p e i:=by
 have d:∀(k:Nat),k≠R->k≠R+1->k≠R+2->(((W.setCell ⟨R,0,I⟩ p).setCell ⟨R+1,0,I⟩ (Z G e)).setCell ⟨R+2,0,I⟩ (Z G i)).heap[k]?=W.heap[k]?:=λk f g j=>
  (Fd j).trans ((Fd g).trans (Fd f))
 refine⟨by simp[World.setCell],?_,?_,?_,λk o m f g j=>(d k f g j).trans m,λw h=>((h.setCell Ln _).setCell (D5 _) _).setCell (Nat.le_add_right _ _) _,d⟩
 .rw [Fd ao9,Fd ao9,Ap h0];rfl
 .rw [Fd ao9,Ap (c:=#[b]) (T:=24) (fr:=(0,0)) ((Fd ao9).trans h1)];rfl
 .rw [Ap (c:=#[c]) (T:=3) (fr:=(0,0)) ((Fd ao9).trans ((Fd ao9).trans l))];rfl
def lu.other {W l:WD} {p s base:Nat}  (h:lu W p s base vs) (r:W.heap.size<=l.heap.size) (d:∀(k:Nat) (o:Obj),W.heap[k]?=O o->k=p\/k=s\/(base<=k/\o.isCells=true)->l.heap[k]?=O o):lu l p s base vs:=by
 obtain⟨nv,xs,h1,i,t⟩:=h.ex;refine⟨nv,xs,⟨d _ _ h1.head (.inl rfl),⟨h1.row.1,?_⟩,?_,λx m=>?_⟩,i,t⟩
 .rcases h1.row.2 with h|⟨g,cap,n,hv,j,hh,q⟩
  .exact .inl h
  .exact .inr ⟨g,cap,n,hv,j,d _ _ hh (.inr (.inr ⟨j,rfl⟩)),q⟩
 .obtain ⟨y,f,z,q⟩:=h1.map;exact⟨y,f,d _ _ z (.inr (.inl rfl)),q⟩
 .have v:∀b a,x.po=O ⟨b,a,I⟩->∃c,W.heap[b]?=O (J c 9 (0,0))/\l.heap[b]?=O (J c 9 (0,0)):=λb a e=>by
   obtain⟨c,u⟩:=(h1.ok x m).2 b a e;exact⟨c,u,d _ _ u (.inr (.inr ⟨t x m b a e,rfl⟩))⟩
  refine⟨⟨Oy (h1.ok x m).1.parts r λb a e _=>?_,(h1.ok x m).1.lr⟩,λb a e=>?_⟩
  .obtain ⟨c,h1,i⟩:=v b a e;rw[h1,i]
  .obtain ⟨c,_,i⟩:=v b a e;exact⟨c,i⟩
def Ap9 {w p n:WD} {d:List (Int×ByteArray)} {i:Int} {u:ByteArray} {j:VL} {xs:List aq} {x:aq} (e:qq w d p) (q:xs.map aq.pl=(Bo [] d).1)
  (h3:∀y,y∈xs->∀b f,y.po=O ⟨b,f,I⟩->w.heap.size+7<=b) (hs:Jp u=O x.pl) (t:∀b f,x.po=O ⟨b,f,I⟩->w.heap.size+7<=b)
  (v:Dv (xs.map aq.name) xs.length x.name x.parts=0) (hF:lh n (w.heap.size+4) (w.heap.size+3) (w.heap.size+7) j (xs++[x]))
  (l:Kq (w.heap.size+4) (w.heap.size+3) (w.heap.size+7) w.heap.size p n) (g:0<w.heap.size):qq w (d++[(i,u)]) n:=by
 have ac:=e.sz;have h4:=l.low.size;have s:xs.map aq.name=(Bo [] d).1.map ar.name:=by rw[<-q,Dm];rfl
 have r:xs.length=(Bo [] d).1.length:=by rw[<-q,Ar]
 have z:Bo [] (d++[(i,u)])=((Bo [] d).1++[x.pl],0,0):=by rw[X3 _ _ _ e.ok,Aga hs];rw[s,r]at v;exact v
 have m:∀ {k:Nat} {o:Obj},p.heap[k]?=O o->k≠w.heap.size+4->k≠w.heap.size+3->k<w.heap.size+7->n.heap[k]?=O o:=λhk a b c=>l.same _ _ hk b a (.inl c);refine⟨⟨j,xs++[x],hF,by rw[z,Dk,q];rfl,λy hy=>?_⟩,by rw[z],e.low.trans l.low,?_,m e.c0 ao9 ao9 ao9,m e.c1 ao9 ao9 ao9,m e.c2 ao9 ao9 ao9,m e.fx ao9 ao9 ao9,ao9⟩
 .rcases Dl.1 hy with h|h
  .exact h3 y h
  .have:y=x:=by simpa using h
   subst this;exact t
 .exact e.mx.mh (l.low.block 0 g)
def Aqa {w e d:WD} {i:List (Int×ByteArray)} (f:qq w i e)
  (g:Kq (w.heap.size+4) (w.heap.size+3) (w.heap.size+7) w.heap.size e d) :
  d.heap[w.heap.size]?=O (J #[K I] 23 (0,0))/\d.heap[w.heap.size+1]?=O (J #[Z G 0] 24 (0,0))/\d.heap[w.heap.size+2]?=O (J #[Z G 0] 3 (0,0))/\BW w.heap.size w d/\e.heap.size<=d.heap.size:=by
 have h:∀ {k:Nat} {o:Obj},e.heap[k]?=O o->k≠w.heap.size+4->k≠w.heap.size+3->k<w.heap.size+7->d.heap[k]?=O o:=λj a b c=>g.same _ _ j b a (.inl c);exact⟨h f.c0 ao9 ao9 ao9,h f.c1 ao9 ao9 ao9,h f.c2 ao9 ao9 ao9,f.low.trans g.low,g.low.size⟩
attribute [local go_sem] Oper.semAt_some
def qj (w:WD) (s:ByteArray):WD:=
 ((((((w.alloc (J #[K I] 23 (0,0))).alloc (J #[Z G 0] 24 (0,0))).alloc (J #[Z G 0] 3 (0,0))).alloc (.map #[] 0)).alloc (J #[V I 0 0,.map (O (w.heap.size+3))] 101 (0,0))).alloc (J #[K (O ⟨w.heap.size+4,0,I⟩)] 23 (0,0))).alloc (J #[D s] 9 (0,0))
def Agg (w:WD) (s:ByteArray):(qj w s).heap.size=w.heap.size+7:=by simp[qj]
def Agh (w:WD) (s:ByteArray):BW w.heap.size w (qj w s):=
 (((((Bn.alloc as9 _).alloc (by simp;omega) _).alloc (by simp;omega) _).alloc (by simp;omega) _).alloc (by simp;omega) _).alloc (by simp;omega) _
def Aqb (w:WD) (s:ByteArray):(qj w s).heap[w.heap.size+6]?=O (J #[D s] 9 (0,0)):=by
 unfold qj;exact A6 _ _ as9
def Aqc (w:WD) (s:ByteArray) (b:Mx w):qq w [] (qj w s):=by
 refine⟨⟨V I 0 0,[],⟨?_,⟨rfl,.inl ⟨rfl,rfl⟩⟩,?_,λx a=>by cases a⟩,rfl,λx a=>by cases a⟩,rfl,Agh w s,b.low (Agh w s),?_,?_,?_,?_,by rw[Agg];exact Nat.le_refl _⟩
 .unfold qj;exact Aj _ (Aj _ (A6 _ _ as9))
 .have h0:=Aat ((((w.alloc (J #[K I] 23 (0,0))).alloc (J #[Z G 0] 24 (0,0))).alloc (J #[Z G 0] 3 (0,0)))) prog 9 (plainElem (H:=Unit) prog 3);have h1:=((h0.alloc (J #[V I 0 0,.map (O (w.heap.size+3))] 101 (0,0))).alloc (J #[K (O ⟨w.heap.size+4,0,I⟩)] 23 (0,0))).alloc (J #[D s] 9 (0,0));simp only[J0]at h1;exact h1
 .unfold qj;exact Aj _ (Aj _ (Aj _ (Aj _ (Aj _ (Aj _ (Ah _ _))))))
 .unfold qj;exact Aj _ (Aj _ (Aj _ (Aj _ (Aj _ (A6 _ _ as9)))))
 .unfold qj;exact Aj _ (Aj _ (Aj _ (Aj _ (A6 _ _ as9))))
 .unfold qj;exact Aj _ (A6 _ _ as9)
def Abm (s:ByteArray) (w:WD) (e:Ending) (w':WD):Prop:=
 ∃p,e=Y (E #[.pointer p,Z G (E5 s).2.1,Z G (E5 s).2.2])/\BW w.heap.size w w' /\
  (((E5 s).2.1≠0/\p=I)\/((E5 s).2.1=0/\p=O ⟨w.heap.size+4,0,I⟩/\lu w' (w.heap.size+4) (w.heap.size+3) (w.heap.size+7) (E5 s).1))
def Aqd (s:ByteArray) (w:WD) (b:4096<s.size):CS prog 13 #[D s] w (Abm s w):=by
 have a:E5 s=([],2,0):=Ad b;have c:decide ((4096:Int)<s.size)=true:=Az ao9;replace a:=Hh a;go_enter func13,ntmps13;go_wp2;refine Al (v:=E #[K I,Z G 2,Z G 0]) (by simp[results,results13,go_sem]) rfl ?_;refine⟨I,by rw[a.out],?_,.inl ⟨by rw[a.out];decide,rfl⟩⟩;exact(Bn.alloc as9 _).alloc (by simp;omega) _
def Aqe (s:ByteArray) (w:WD) (hm:Mx w) (hs:¬4096<s.size):CS prog 13 #[D s] w (Abm s w):=by
 have hr:E5 s=Bo [] (Gi s):=Ac hs;have a3:=@run_makeMap prog;have d1:decide ((4096:Int)<s.size)=false:=A2 ao9;have aK:=hm;replace⟨hr,aK,hm⟩:=H3 hr aK hm;refine(Pw (n:=8)).1 ?_;refine callsIn_of_wp_marks func13 rfl trivial ?_ rfl;simp only[ntmps13,Wr,Jl,Qw,Nat.reduceAdd,Nat.reduceSub,Aao,Aap,Aax,Aar,Sb,Pt]
 gi_wp2_with fail
 refine⟨trivial,(Pw.2 (Ap3 s _)).mono ?_⟩;rintro e w1 ⟨rfl,a7⟩
 gi_wp2_with fail
 subst a7;clear a3;change Code.wpIn _ _ _ _ _ { tmps:=#[D s,undef,K (O ⟨w.heap.size,0,I⟩),K (O ⟨w.heap.size+1,0,I⟩),K (O ⟨w.heap.size+2,0,I⟩),K (O ⟨w.heap.size+5,0,I⟩),undef,undef,undef,undef,D s,Z G s.size,Q false,.map (O (w.heap.size+3)),.agg #[V I 0 0,.map (O (w.heap.size+3))],K (O ⟨w.heap.size+4,0,I⟩),D s,.func (.func 75) #[] #[K (O ⟨w.heap.size+6,0,I⟩)],undef,undef,undef,undef,undef,undef,undef,undef,undef,undef,undef,undef,undef,undef,undef,undef,undef],defers:=[] } (qj w s);have hS:=Aqc w s aK.out;have aX:=Agg w s;have aI:=Aqb w s;have aL:=hS.mx;have aP:=aK.pos;generalize qj w s=W1 at hS aX aI aL ⊢;replace⟨hS,aI,aL⟩:=H3 hS aI aL;refine Apz rfl ao9 (gf:=75) (lb:=#[K (O ⟨w.heap.size+6,0,I⟩)]) rfl trivial (enters_of func75 (by kernel_rfl) rfl)
  (Ap2 7 ao9 (w.heap.size+6) s W1 ao9 aI.out aL.out ao9) ao9 ao9 (Below.refl _ _) (λ_=>rfl)
  (qq w) (λc j W=>c=.ret/\xh w j W) ?hI ?hIx ?hIb ?hIxb hS.out
  (λx=>{ tmps:=#[D s,undef,K (O ⟨w.heap.size,0,I⟩),K (O ⟨w.heap.size+1,0,I⟩),K (O ⟨w.heap.size+2,0,I⟩),K (O ⟨w.heap.size+5,0,I⟩),Z G x.1,D x.2,undef,undef,D s,Z G s.size,Q false,.map (O (w.heap.size+3)),.agg #[V I 0 0,.map (O (w.heap.size+3))],K (O ⟨w.heap.size+4,0,I⟩),D s,.func (.func 75) #[] #[K (O ⟨w.heap.size+6,0,I⟩)],Z G x.1,D x.2,undef,undef,undef,undef,undef,undef,undef,undef,undef,undef,undef,undef,undef,undef,undef],defers:=[] }) ?assign ?body ?done ?stop
 case hI=>
  intro j A B row h hg aW;exact h.grown hg λr e=>.inr (by rw[<-aX];exact aW r e)
 case hIx=>
  rintro c j A B row ⟨rfl,h⟩ hg aW;exact⟨rfl,h.grown hg λr e=>.inr (by rw[<-aX];exact aW r e)⟩
 case hIb=>
  intro j A B h hg;exact h.grown hg λr e=>.inl (by cases e;rfl)
 case hIxb=>
  rintro c j A B ⟨rfl,h⟩ hg;exact⟨rfl,h.grown hg λr e=>.inl (by cases e;rfl)⟩
 case assign=>
  intro l x W K9q t
  gi_wp2
  exact t
 case body=>
  rintro l j ⟨i,ln⟩ W hI v;have aA:(i,ln)∈Gi s:=v.subset as9;have aJ:=Ap6 aA;have ad:=Apt ln W hI.mx (by have:ln.size<=s.size:=aJ;omega);replace⟨hI,v,aA,aJ,ad⟩:=H5 hI v aA aJ ad
  gi_wp2_with fail
  refine⟨trivial,((Pw.2 ad.out).inRound l).mono ?_⟩;rintro e w2 ⟨x,r,rfl,aB,f,av,aR⟩;have d:=hI.below f;have c0:=Aa d.c0 0;have c1:=Aa d.c1 0;have c2:=Aa d.c2 0;have c5:=Aa d.fx 0;have f0:=Ag d.c0 0;have f1:=Ag d.c1 0;have f2:=Ag d.c2 0;have l0:=Ab d.c0;have l1:=Ab d.c1;have l2:=Ab d.c2;have l5:=Ab d.fx;simp at c0 c1 c2 c5;rcases aR with⟨al,rfl,rfl⟩|⟨q,rfl⟩
  .have a:=Abl d.c0 d.c1 d.c2 (K I) 50 i;have y:Bo [] (j++[(i,ln)])=((Bo [] j).1,50,i):=(by rw[X3 _ _ _ hI.ok,Af9 al]);have a8:=d.sz;replace⟨d,aB,f,av,al,a,y⟩:=H7 d aB f av al a y
   gi_wp2
   refine⟨?_,rfl,?_⟩
   .refine ⟨?_,λk o hk hh ho=>Aj _ (a.other k o (Ae f.out hh (Ab hh)) ao9 ao9 ao9)⟩;have:=a.size;have:=f.size;rw[J0];omega
   .refine ⟨(a.low _ d.low).alloc (a.low _ d.low).size _,by rw[y.out];show(50:Int)≠0;decide,Aj _ a.c0,by rw[y.out];exact Aj _ a.c1,by rw[y.out];exact Aj _ a.c2,?_⟩;have:=a.size;rw[J0];omega
  .have aS:=Age q;have aU:=Ap8 q;have aT:=Ap7 aS.name;obtain⟨W3,aH⟩:=Ex (w2.alloc (J x.cells 69 (0,0)));have g:BW w2.heap.size w2 W3:=(by rw[aH];exact Bn);have ap:=d.below g;have am:=aB.low g
   have aC:L6 W3 x:=λb aY e=>by
    obtain⟨_,c,hc⟩:=av b aY e;exact⟨c,Ae g hc (Ab hc)⟩
   obtain⟨nv,xs,h1,h2,h3⟩:=ap.fl.ex;have aD:=λb aY e=>A8 hI.sz (av b aY e).1;have aV:x.pn<=4294967296:=(by have e1:=am.parts.len;have e2:x.parts.length<=ln.size+1:=aU;have:ln.size<=s.size:=aJ.out;omega);have z:=Apy W3 (w.heap.size+4) (w.heap.size+3) (w.heap.size+7) w.heap.size nv xs x h1 am aC (by have:maxLen=9223372036854775807:=rfl;have:x.name.size<=16:=aT;omega) aV ao9 ao9 ao9 ap.sz;obtain⟨E9q,hE⟩:=Ex (Dv (xs.map aq.name) xs.length x.name x.parts);rw[<-hE]at z;have aM:xs.map aq.name=(Bo [] j).1.map ar.name:=(by rw[<-h2,Dm];rfl);have aO:xs.length=(Bo [] j).1.length:=(by rw[<-h2,Ar]);obtain⟨nm,⟨ca,cb,cc,cd⟩,po,pn,pc,ps⟩:=x;rw[aH]at z;replace⟨d,aB,f,av,q,aS,aU,aT⟩:=H8 d aB f av q aS aU aT;replace⟨g,ap,am,aC,h1,h2,h3,aD⟩:=H8 g ap am aC h1 h2 h3 aD;replace⟨aV,z,hE,aM,aO⟩:=H5 aV z hE aM aO;have aZ:=Hh aH;clear aH
   gi_wp2_with fail
   refine⟨trivial,((Pw.2 z.out).inRound l).mono ?_⟩;rintro e w4 ⟨a9,rfl,ao,t⟩;rw[<-aZ.out]at t;have a5:=Aqa ap.out t;obtain⟨q0,q1,q2,u,p⟩:=a5;clear c0 c1 c2 c5 f0 f1 f2 l0 l1 l2 l5;by_cases an:E9q=0
   .subst an;rw[Ad rfl]at ao;have aQ:qq w (j++[(i,ln)]) w4:=Ap9 ap.out h2.out h3.out q.out aD.out hE.symm ao t aP;replace⟨ao,t,q0,q1,q2,u,p,aQ⟩:=H8 ao t q0 q1 q2 u p aQ
    gi_wp2
    have aE:=A8 f.size g.size;have aF:=λk hk=>(g.block k (Bq hk f.size)).trans (f.block k hk);have a6:=hI.sz;refine⟨⟨A8 aE p.out,λk o hk hh ho=>?_⟩,⟨?_,?_⟩,aQ.out⟩
    .exact (t.keeps (B:=W1.heap.size) ao9 ao9 p.out).same k o hk ((aF k (Ab hh)).trans hh) ho
    .exact (t.au ao9 ao9 ao9 ao9).trans (aF _ ao9)
    .exact (t.low.block 0 aP).trans (aF _ ao9)
   .have y:Bo [] (j++[(i,ln)])=((Bo [] j).1,E9q,i):=by
     rw[X3 _ _ _ hI.ok,Agb q.out]
     .rw [<-aM.out,<-aO.out];rw[hE.out];rfl
     .rw [<-aM.out,<-aO.out];exact λc=>an (hE.trans c)
    have a:=Abl q0 q1 q2 (K I) E9q i;have c0:=Aa q0 0;have c1:=Aa q1 0;have c2:=Aa q2 0;have f0:=Ag q0 0;have f1:=Ag q1 0;have f2:=Ag q2 0;simp at c0 c1 c2;have dE:(E9q != 0)=true:=(by simpa using an);replace⟨ao,t,q0,q1,q2,u,p,an⟩:=H8 ao t q0 q1 q2 u p an;replace⟨y,a⟩:=H2 y a
    gi_wp2
    have aE:=A8 f.size g.size;have aF:=λk hk=>(g.block k (Bq hk f.size)).trans (f.block k hk);have a6:=hI.sz;refine⟨⟨by rw[a.size];exact A8 aE p.out,λk o hk hh ho=>?_⟩,rfl,a.low _ u.out,by rw[y.out];exact an.out,a.c0,by rw[y.out];exact a.c1,by rw[y.out];exact a.c2,by rw[a.size];have:=p.out;omega⟩;exact a.other k o ((t.keeps (B:=W1.heap.size) ao9 ao9 p.out).same k o hk ((aF k (Ab hh)).trans hh) ho) ao9 ao9 ao9
 case done=>
  intro D0 W hD hI t;have c0:=Aa hI.c0 0;have c1:=Aa hI.c1 0;have c2:=Aa hI.c2 0;have c5:=Aa hI.fx 0;have f0:=Ag hI.c0 0;have f1:=Ag hI.c1 0;have f2:=Ag hI.c2 0;simp at c0 c1 c2 c5;have a:=Abl hI.c0 hI.c1 hI.c2 (K (O ⟨w.heap.size+4,0,I⟩)) 0 0;have hz:=Agf [] (Gi s) hI.ok;have a0:=Ab t;have aG:=a.other D0 _ t ao9 ao9 ao9;replace⟨hI,t,a,hz,aG⟩:=H5 hI t a hz aG
  gi_wp2
  refine⟨as9,.inl ⟨_,_,rfl,run_takeDeferred aG.out,?_⟩⟩;obtain⟨W5,a2⟩:=Ex ((((W.setCell ⟨w.heap.size,0,I⟩ (K (O ⟨w.heap.size+4,0,I⟩))).setCell ⟨w.heap.size+1,0,I⟩ (Z G 0)).setCell ⟨w.heap.size+2,0,I⟩ (Z G 0)));have ac:=a.out;have a1:=aG.out;rw[<-a2]at ac a1 ⊢;have g0:=Aa ((World.putObj_heap_other (o:=.deferred I) (show w.heap.size≠D0 by omega)).trans ac.c0) 0;have g1:=Aa ((World.putObj_heap_other (o:=.deferred I) (show w.heap.size+1≠D0 by omega)).trans ac.c1) 0;have g2:=Aa ((World.putObj_heap_other (o:=.deferred I) (show w.heap.size+2≠D0 by omega)).trans ac.c2) 0;simp at g0 g1 g2;refine⟨E #[K (O ⟨w.heap.size+4,0,I⟩),Z G 0,Z G 0],by simp[results,results13,go_sem,g0,g1,g2],O ⟨w.heap.size+4,0,I⟩,by rw[hr.out,hI.ok,hz.out],?_,.inr ⟨by rw[hr.out];exact hI.ok,rfl,?_⟩⟩
  .exact (ac.low _ hI.low).grown (grownBy_putObj' _ D0 _) (ac.low _ hI.low).size (λk e=>by cases e;omega)
  .rw [hr.out];refine hI.fl.other (by have:=ac.size;simp[World.putObj];omega) λk o hk hc=>?_
   have a4:k≠D0:=λe=>by
    subst e;rw[t.out]at hk;cases hk;rcases hc with e|e|⟨_,e⟩
    .omega
    .omega
    .simp [Obj.isCells]at e
   exact(World.putObj_heap_other a4).trans (ac.other k o hk ao9 ao9 ao9)
 case stop=>
  rintro D0 c j ⟨i,ln⟩ W hD v ⟨rfl,hX⟩ t;have a0:=Ab t;have aN:Bo [] (Gi s)=Bo [] (j++[(i,ln)]):=by obtain⟨m,hm⟩:=v;rw[<-hm,Af8 _ _ _ hX.bad]
  replace⟨hX,t,aN,v⟩:=H4 hX t aN v
  gi_wp2
  refine⟨as9,.inl ⟨_,_,rfl,run_takeDeferred t.out,?_⟩⟩;have g0:=Aa ((World.putObj_heap_other (o:=.deferred I) (show w.heap.size≠D0 by omega)).trans hX.c0) 0;have g1:=Aa ((World.putObj_heap_other (o:=.deferred I) (show w.heap.size+1≠D0 by omega)).trans hX.c1) 0;have g2:=Aa ((World.putObj_heap_other (o:=.deferred I) (show w.heap.size+2≠D0 by omega)).trans hX.c2) 0;simp at g0 g1 g2;refine⟨E #[K I,Z G (Bo [] (j++[(i,ln)])).2.1,Z G (Bo [] (j++[(i,ln)])).2.2],by simp[results,results13,go_sem,g0,g1,g2],I,by rw[hr.out,aN.out],?_,.inl ⟨by rw[hr.out,aN.out];exact hX.bad,rfl⟩⟩;exact hX.low.grown (grownBy_putObj' _ D0 _) hX.low.size (λk e=>by cases e;omega)
def Agi (s:ByteArray) (w:WD) (b:Mx w):CS prog 13 #[D s] w (Abm s w):=by
 by_cases a:4096<s.size
 .exact Aqd s w a
 .exact Aqe s w b a
def J5:Nat->List ar->ByteArray->List Int
 | _,[],_=>[]
 | k,v :: vs,p=>if Gx v.parts p=true then(k:Int)::J5 (k+1) vs p else J5 (k+1) vs p
def B5 (vs:List ar) (p:ByteArray):List Int:=J5 0 vs p
def Aqf (a b:List ar) (p:ByteArray) (k:Nat):J5 k (a++b) p=J5 k a p++J5 (k+a.length) b p:=by
 induction a generalizing k with
 | nil=>simp[J5]
 | cons v a ih=>
  simp only[Pt,J5,Jl];rw[ih,show k+1+a.length=k+(a.length+1) by omega]
  split<;>simp
def Jq {α:Type} {l:List α}  {x:α} (h:l[k]?=O x):l.take (k+1)=l.take k++[x]:=by
 rw[On,h];rfl
def Agj   {v:ar} (p:ByteArray) (h:vs[k]?=O v):B5 (vs.take (k+1)) p=B5 (vs.take k) p++(if Gx v.parts p=true then[(k:Int)]else[]):=by
 have a:=(An.1 h).1;unfold B5;rw[Jq h,Aqf,Fl,Mu ao9,Db];simp only[J5]
def Agk   {v:ar} {p:ByteArray} (h:vs[k]?=O v) (a:Gx v.parts p=true):B5 (vs.take (k+1)) p=B5 (vs.take k) p++[(k:Int)]:=by
 rw[Agj p h,Ad a]
def Agl   {v:ar} {p:ByteArray} (h:vs[k]?=O v) (a:Gx v.parts p=false):B5 (vs.take (k+1)) p=B5 (vs.take k) p:=by
 rw[Agj p h,Ac (by rw[a];simp),Nv]
def Agm (vs:List ar) (p:ByteArray) (k:Nat):(J5 k vs p).length<=vs.length:=by
 induction vs generalizing k with
 | nil=>simp[J5]
 | cons v vs ih=>
  have:=ih (k+1);simp only[J5]
  split<;>simp<;>omega
def Agn (vs:List ar) (p:ByteArray):(B5 vs p).length<=vs.length:=Agm vs p 0
def X4 (a b:V4):V4:=⟨a.a+b.a,a.b+b.b,a.c+b.c,a.d+b.d⟩
def O0 (v:ar) (p:ByteArray):Bool:=p.toList.isEmpty || Gx v.parts p
def Ee (vs:List ar) (p:ByteArray):V4:=vs.foldl (λa v=>if O0 v p=true then X4 a v.cap else a) V4.zero
structure X5 (v:V4):Prop where
 a0:0<=v.a
 a1:v.a<=1073741824
 b0:0<=v.b
 b1:v.b<=1073741824
 c0:0<=v.c
 c1:v.c<=1073741824
 d0:0<=v.d
 d1:v.d<=1073741824
structure Aqg (v:V4) (n:Nat):Prop where
 a0:0<=v.a
 a1:v.a<=1073741824*n
 b0:0<=v.b
 b1:v.b<=1073741824*n
 c0:0<=v.c
 c1:v.c<=1073741824*n
 d0:0<=v.d
 d1:v.d<=1073741824*n
def Aqi (l:List ByteArray) (x:ByteArray):Lib.containsS l x=Gx l x:=by
 rw[Oq,Lib.containsS_iff,Oz]
def Ago (w:WD) (po:Option Addr) (pn pc:Nat) (a:List ByteArray) (s:ByteArray) (h:Ej w po pn a):CS prog 209 #[V po pn pc,D s] w λe w'=>e=Y (Q (Gx a s))/\w'=w:=by
 have i:=h.len;have l:=h.max;by_cases h0:pn=0
 .subst h0;have:a=[]:=Ib.1 i;subst this;exact Tryz.slices_Contains_string_empty po pc s w
 .obtain ⟨b,d,rfl,k,_⟩:=h.cell 0 (a[0]'(by omega)) as9;refine(Tryz.slices_Contains_string b d pn pc a s w ao9 l λj c=>?_).mono ?_
  .obtain ⟨m,f,e,_,g⟩:=h.cell j (a[j]'c) (by simp[c]);cases e;rw[g];simp[List.getD,c]
  .rintro e w' ⟨rfl,rfl⟩;rw[C4 ao9,Aqi];exact⟨rfl,rfl⟩
def Bz (xs:List Int):List VL:=xs.map λn=>Z G n
structure Am (w:WD) (B:Nat) (v:VL) (xs:List Int):Prop where
 row:w.ownsRow B 3 1 v xs.length (Bz xs)
def Abo (vs:List ar) (p:ByteArray) (w:WD) (e:Ending) (w':WD):Prop:=∃v,e=Y v/\Am w' w.heap.size v (B5 vs p)/\BW w.heap.size w w'
def M0:(prog.info? 3).map (λi=>(i.zero,i.size,i.bytes))=O (O (Z G 0),1,8):=by kernel_rfl
def X6 (w:WD) (n:Int):∀j u,([Z G n]:List VL)[j]?=O u->(w.alloc (J #[Z G n] 3 (0,0))).cell? ((⟨w.heap.size,0,I⟩:Addr).add j)=O u:=by
 intro j u a
 match j,a with
 | 0,a=>
  have:=Aa (Ah w (J #[Z G n] 3 (0,0))) 0;simp at a;subst a;exact this
 | j+1,a=>simp at a
def X7 {xs:List aq}  {x:aq} (h:xs[k]?=O x):(xs.map aq.pl)[k]?=O x.pl:=by rw[A7,h];rfl
def Aqj (w:WD) (fb mb base:Nat) (nv:VL) (xs:List aq) (p:ByteArray) (hF:lh w fb mb base nv xs) (al:xs.length<=4096):CS prog 154 #[K (O ⟨fb,0,I⟩),D p] w (Abo (xs.map aq.pl) p w):=by
 obtain⟨i3,ap,av,am,an⟩:=Cf M0;obtain⟨n,hn⟩:=Ex (xs.length);have q:=Abn w fb mb base nv xs hF;rw[<-hn]at q al;replace⟨hF,hn,q⟩:=H3 hF hn q;go_enter func154,ntmps154;go_wp2_with fail;refine q.mono ?_;rintro e w1 ⟨rfl,rfl⟩;go_wp2;go_loopw [5,9] (λov i wr=>∃k:Nat,i=Z G k/\k<=n/\Hid (Am wr w1.heap.size ov (B5 ((xs.map aq.pl).take k) p))/\Hid (BW w1.heap.size w1 wr)) (λ_ i _=>n-(intOf i).toNat)
 case atStart=>exact⟨0,rfl,As _,⟨rfl,.inl ⟨rfl,rfl⟩⟩,Below.refl _ _⟩
 case round=>
  obtain⟨k,rfl,hk,hO,hB⟩:=hrel;by_cases hc:k<n
  .have ao:(k:Int)<n:=ao9;have aB:(0:Int)<=(k:Int):=ao9;have m:=hF.below hB.out;obtain⟨g,cap,rfl⟩:=Joins.ownsRow_form m.row (by have:=hn.out;omega);obtain⟨x,hx⟩:=Ge xs k (by have:=hn.out;omega);obtain⟨g',e1,_,_,c⟩:=m.cell hx;have e2:g=g':=(by simpa[Value.ownBlock]using e1);subst e2;have c5:wr.cell? ⟨g,k*6+5,I⟩=O (V x.po x.pn x.pc):=c 5 ao9;have f0:=Aa m.head 0;simp at f0;rw[<-hn.out]at f0;have o:=Ago wr x.po x.pn x.pc x.parts p (m.ok x (Ai hx)).1.parts;obtain⟨b,hb⟩:=Ex (Gx x.parts p);rw[<-hb]at o;have r:=X7 hx;replace⟨m,hx,o,hb,r,c,e1⟩:=H7 m hx o hb r c e1
   cases b with
   | false=>
    have v:Am wr w1.heap.size u5 (B5 ((xs.map aq.pl).take (k+1)) p):=(by rw[Agl r.out hb.symm];exact hO.out);replace v:=Hh v;go_wp2_with fail
    (with_reducible refine o.out.mono ?_)
    rintro e wr ⟨rfl,rfl⟩;go_wp2;go_roundw
    case rel=>exact⟨k+1,by go_num,ao9,v.out,hB.out⟩
    case measure=>simp[intOf];omega
   | true=>
    obtain⟨L,hL⟩:=Ex ((B5 ((xs.map aq.pl).take k) p).length);have aA:L<=k:=(by rw[hL];refine A8 (Agn _ _) ?_;rw[Fl];omega);have j:(wr.alloc (J #[Z G (k:Int)] 3 (0,0))).ownsRow w1.heap.size 3 1 u5 L (Bz (B5 ((xs.map aq.pl).take k) p)):=(by rw[hL];exact hO.row.alloc (J #[Z G (k:Int)] 3 (0,0)));have f:=X6 wr (k:Int);have h:∀u∈([Z G (k:Int)]:List VL),u.oneCell'=true:=(by simp[Value.oneCell']);have s:=If (n:=L) ao9;have z:(L+1)*8<=140737488355328:=ao9;have l:w1.heap.size<=(wr.alloc (J #[Z G (k:Int)] 3 (0,0))).heap.size:=(by have:=hB.size;simp;omega);replace⟨hL,j,f,h,s,z,l⟩:=H7 hL j f h s z l;go_wp2_with fail
    (with_reducible refine o.out.mono ?_)
    rintro e wr ⟨rfl,rfl⟩;go_wp2_with (at_builtin;refine Ms _ rfl _ _ 31 rfl w1.heap.size 3 i3 _ 1 8 Ns ap av am an rfl ad9 _ L _ rfl j.out ⟨wr.heap.size,0,I⟩ 1 1 [Z G (k:Int)] rfl rfl f.out h.out s.out z.out l.out ?_;intro v1 w7 a d _;obtain⟨g7,ad,rfl⟩:=Joins.ownsRow_form a ao9;replace⟨a,d⟩:=H2 a d);have y:Am w7 w1.heap.size (V (O ⟨g7,0,I⟩) (L+1) ad) (B5 ((xs.map aq.pl).take (k+1)) p):=(by rw[Agk r.out hb.symm];refine⟨?_⟩;rw[Cn,<-hL.out];simpa[Bz]using a.out);have t:=(hB.alloc hB.size _).grown d.out l.out (λk hk=>(hO.row.lt k hk).1);replace⟨y,t⟩:=H2 y t;go_roundw
    case rel=>exact⟨k+1,by go_num,ao9,y.out,t.out⟩
    case measure=>simp[intOf];omega
  .have ao:¬(k:Int)<n:=ao9;have ac:(xs.map aq.pl).take k=xs.map aq.pl:=C4 (by rw[Ar];have:=hn.out;omega);replace ac:=Hh ac;go_wp2;go_ret;exact⟨u5,rfl,by have:=hO.out;rw[ac.out]at this;exact this,hB.out⟩
structure j7 (w:WD) (v:V4) (W:WD):Prop where
 low:BW w.heap.size w W
 r0:W.heap[w.heap.size]?=O (J V4.zero.cells 30 (0,0))
 r1:W.heap[w.heap.size+1]?=O (J v.cells 30 (0,0))
def j7.set  {v a:V4} (h:j7 w v W) (o:Nat) (x:VL) (e:v.cells.setIfInBounds o x=a.cells):j7 w a (W.setCell ⟨w.heap.size+1,o,I⟩ x):=
 ⟨h.low.setCell (D5 _) _,Dn (Nat.ne_of_lt (Nat.lt_succ_self _)) _ h.r0,by rw[Ap h.r1,e]⟩
def L8 (u c:V4) (k:Nat):V4:=⟨if 0<k then u.a+c.a else u.a,if 1<k then u.b+c.b else u.b,if 2<k then u.c+c.c else u.c,if 3<k then u.d+c.d else u.d⟩
def Abp (vs:List ar) (p:ByteArray) (w:WD) (e:Ending) (w':WD):Prop:=e=Y (Ee vs p).val/\BW w.heap.size w w'
