/- Parts of a proof. No condition. -/
import Derived.Test.YtimlcnhcjndijaaGreatDoorF07
import Derived.Test.YtimlcnhcjndijaaGreatDoorF09
import Derived.Maps.OwnIn
set_option linter.all false
set_option maxRecDepth 100000
set_option maxHeartbeats 6400000
namespace Go.Proofs.YtimlcnhcjndijaaGreatDoor
open Go renaming World->WD,Value->VL,Calls->CS
open Go.RowKit renaming Below->BW
open Go.Proofs.Tryz
section
open Go.RowKit Go.Maps Go.Lib
def Amk (s:ByteArray) (w:WD):CS prog 40 #[.string s] w fun e w'=>e=.returned (.func (.func 75) #[] #[.pointer (some ⟨w.heap.size,0,none⟩)])/\w'=w.alloc (.cells #[.string s] 9 (0,0)):=by
 go_enter func40,ntmps40;go_wp2;go_ret;exact ⟨rfl,rfl⟩
def Bf:List au->List (Int×ByteArray)->List au×Int×Int
 | xs,[]=>(xs,0,0)
 | xs,(i,l) :: ls=>
  match Ip l with
  | none=>(xs,50,i)
  | some v=>if Db (xs.map au.name) xs.length v.name v.parts=0 then Bf (xs++[v]) ls else (xs,Db (xs.map au.name) xs.length v.name v.parts,i)
def Ej (s:ByteArray):List au×Int×Int:=if 4096<s.size then ([],2,0) else Bf [] (Fq s)
def Wd (xs:List au) (l m:List (Int×ByteArray)) (h:(Bf xs l).2.1=0):Bf xs (l++m)=Bf (Bf xs l).1 m:=by
 induction l generalizing xs with
 | nil=>rfl
 | cons x l ih=>
  obtain ⟨i,b⟩:=x;show Bf xs ((i,b) :: (l++m))=_;simp only [Bf] at h ⊢
  cases hn:Ip b with
  | none=>rw [hn] at h;simp at h
  | some v=>
   rw [hn] at h;simp only at h ⊢;by_cases c:Db (xs.map au.name) xs.length v.name v.parts=0
   .rw [Ad c] at h ⊢;rw [Ad c];exact ih _ h
   .rw [Ac c] at h;exact absurd h c
end
section
open Go.RowKit Go.Maps Go.Shelf
variable{vs:List au}{k:Nat}{row:Option Nat}{W w w':WD}
structure ju (W:WD) (fb mb base:Nat) (vs:List au):Prop where
 ex:∃ nv xs,jk W fb mb base nv xs/\xs.map aq.pl=vs/\∀ x,x∈xs->∀ b off,x.po=some ⟨b,off,none⟩->base<=b
def ju.below  {a b base:Nat}  (h:ju w a b base vs) (e:BW w.heap.size w w'):ju w' a b base vs:=by
 obtain ⟨f,xs,h1,c,d⟩:=h.ex;exact ⟨f,xs,h1.below e,c,d⟩
def Aml  {l n base:Nat} {r:VL} {xs:List aq}  (h:jk w l n base r xs) (p:w.grownBy w' row) (t:row≠some n)
  (u:∀ x,x∈xs->∀ b a,x.po=some ⟨b,a,none⟩->base<=b) (d:∀ (k:Nat) (c:Array VL) (T:TypeId) (fr:Nat×Nat),(k=l\/base<=k)->w.heap[k]?=some (.cells c T fr)->w'.heap[k]?=some (.cells c T fr)):jk w' l n base r xs:=by
 refine ⟨d _ _ _ _ (.inl rfl) h.head,⟨h.row.1,?_⟩,h.map.kept p (P3 t),fun x i=>?_⟩
 .rcases h.row.2 with h | ⟨g,cap,j,y,f,s,v⟩
  .exact .inl h
  .exact .inr ⟨g,cap,j,y,f,d _ _ _ _ (.inr f) s,v⟩
 .have q:∀ b a,x.po=some ⟨b,a,none⟩->∃ c,w.heap[b]?=some (.cells c 9 (0,0))/\w'.heap[b]?=some (.cells c 9 (0,0)):=fun b a e=>by
   obtain ⟨c,o⟩:=(h.ok x i).2 b a e;exact ⟨c,o,d _ _ _ _ (.inr (u x i b a e)) o⟩
  refine ⟨⟨N1 (h.ok x i).1.parts p.size fun b a e _=>?_,(h.ok x i).1.lg⟩,fun b a e=>?_⟩
  .obtain ⟨c,h1,m⟩:=q b a e;rw [h1,m]
  .obtain ⟨c,_,m⟩:=q b a e;exact ⟨c,m⟩
def Adv (xs:List au) (l m:List (Int×ByteArray)) (h:(Bf xs l).2.1≠0):Bf xs (l++m)=Bf xs l:=by
 induction l generalizing xs with
 | nil=>exact absurd rfl h
 | cons x l ih=>
  obtain ⟨i,b⟩:=x;show Bf xs ((i,b) :: (l++m))=_;simp only [Bf] at h ⊢
  cases hn:Ip b with
  | none=>rfl
  | some v=>
   rw [hn] at h;simp only at h ⊢;by_cases c:Db (xs.map au.name) xs.length v.name v.parts=0
   .rw [Ad c] at h ⊢;rw [Ad c];exact ih _ h
   .rw [Ac c,Ac c]
def Adw {xs:List au} {i:Int} {l:ByteArray} (h:Ip l=none):Bf xs [(i,l)]=(xs,50,i):=by
 simp only [Bf,h]
def Adx {xs:List au} {i:Int} {l:ByteArray} {v:au} (h:Ip l=some v) (a:Db (xs.map au.name) xs.length v.name v.parts=0):Bf xs [(i,l)]=(xs++[v],0,0):=by
 simp only [Bf,h,Ad a]
def Ady {xs:List au} {i:Int} {l:ByteArray} {v:au} (h:Ip l=some v) (a:Db (xs.map au.name) xs.length v.name v.parts≠0):Bf xs [(i,l)]=(xs,Db (xs.map au.name) xs.length v.name v.parts,i):=by
 simp only [Bf,h,Ac a]
structure ox (w:WD) (pre:List (Int×ByteArray)) (W:WD):Prop where
 fl:ju W (w.heap.size+4) (w.heap.size+3) (w.heap.size+7) (Bf [] pre).1
 ok:(Bf [] pre).2.1=0
 low:BW w.heap.size w W
 mx:Mx W
 c0:W.heap[w.heap.size]?=some (.cells #[.pointer none] 23 (0,0))
 c1:W.heap[w.heap.size+1]?=some (.cells #[.int .i64 0] 24 (0,0))
 c2:W.heap[w.heap.size+2]?=some (.cells #[.int .i64 0] 3 (0,0))
 fx:W.heap[w.heap.size+5]?=some (.cells #[.pointer (some ⟨w.heap.size+4,0,none⟩)] 23 (0,0))
 sz:w.heap.size+7<=W.heap.size
structure vf (w:WD) (pre:List (Int×ByteArray)) (W:WD):Prop where
 low:BW w.heap.size w W
 bad:(Bf [] pre).2.1≠0
 c0:W.heap[w.heap.size]?=some (.cells #[.pointer none] 23 (0,0))
 c1:W.heap[w.heap.size+1]?=some (.cells #[.int .i64 (Bf [] pre).2.1] 24 (0,0))
 c2:W.heap[w.heap.size+2]?=some (.cells #[.int .i64 (Bf [] pre).2.2] 3 (0,0))
 sz:w.heap.size+7<=W.heap.size
def ve (w W:WD) (row:Option Nat):Prop:=∀ r,row=some r->r=w.heap.size+6\/(w.heap.size+7<=r/\∃ o:Obj,W.heap[r]?=some o/\o.isCells=false)
def O6 {w W a:WD}  (f:W.grownBy a row) (i:ve w W row)  {c:Array VL} {T:TypeId} {fr:Nat×Nat} (g:k≠w.heap.size+6) (h:W.heap[k]?=some (.cells c T fr)):a.heap[k]?=some (.cells c T fr):=
 (f.block k (Ab h) (fun e=>by
  rcases i k e.symm with e | ⟨_,o,b,d⟩
  .exact g e
  .rw [h] at b;cases b;simp [Obj.isCells] at d)).trans h
def Adz {w W a:WD}  (b:W.grownBy a row) (c:ve w W row) (h:BW w.heap.size w W):BW w.heap.size w a:=
 h.grown b h.size (fun k e=>by rcases c k e with e | ⟨e,_⟩<;>omega)
def ox.grown {w W f:WD} {d:List (Int×ByteArray)}  (h:ox w d W) (a:W.grownBy f row) (b:ve w W row):ox w d f:=by
 obtain ⟨l,xs,h1,i,g⟩:=h.fl.ex;refine ⟨⟨l,xs,Aml h1 a (fun e=>?_) g (fun k c T fr m j=>O6 a b (by omega) j),i,g⟩,h.ok,Adz a b h.low,?_,O6 a b (by omega) h.c0,O6 a b (by omega) h.c1,O6 a b (by omega) h.c2,O6 a b (by omega) h.fx,A5 h.sz a.size⟩
 .rcases b _ e with e | ⟨e,_⟩<;>omega
 .refine h.mx.j9 (a.block 0 h.mx.pos (fun e=>?_));have:=h.sz
  rcases b _ e.symm with e | ⟨e,_⟩<;>omega
def vf.grown {w W d:WD} {b:List (Int×ByteArray)}  (h:vf w b W) (a:W.grownBy d row) (c:ve w W row):vf w b d:=
 ⟨Adz a c h.low,h.bad,O6 a c (by omega) h.c0,O6 a c (by omega) h.c1,O6 a c (by omega) h.c2,A5 h.sz a.size⟩
def ox.below {w W c:WD} {b:List (Int×ByteArray)} (h:ox w b W) (a:BW W.heap.size W c):ox w b c:=
 ⟨h.fl.below a,h.ok,h.low.trans (a.mono h.low.size),h.mx.low a,Ae a h.c0 (Ab h.c0),Ae a h.c1 (Ab h.c1),Ae a h.c2 (Ab h.c2),Ae a h.fx (Ab h.fx),A5 h.sz a.size⟩
def Jr.keeps {b f base j B:Nat} {W a:WD} (h:Jr b f base j W a) (l:b<B) (n:f<B) (i:W.heap.size<=a.heap.size):KeepsFrom B W a:=
 ⟨i,fun k o m g d=>h.same k o g (by omega) (by omega) (.inr fun c fr e=>by rw [e] at d;simp [Obj.isCells] at d)⟩
def Jr.ar {b d base j k:Nat} {W a:WD} (h:Jr b d base j W a) (g:k<W.heap.size) (f:k≠b) (i:k≠d) (e:k<base):a.heap[k]?=W.heap[k]?:=by
 obtain ⟨o,c⟩:∃ o,W.heap[k]?=some o:=⟨_,Oo g⟩;rw [c];exact h.same k o c i f (.inl e)
def Amm (n:Nat) (b:List (List UInt8)):∀ x,x∈Dp n b->∃ p,p∈b/\x.2=bp p:=by
 induction b generalizing n with
 | nil=>intro x a;simp [Dp] at a
 | cons p b ih=>
  intro x a;simp only [Dp] at a
  have c:x∈Dp (n+1) b->∃ q,q∈p :: b/\x.2=bp q:=fun h=>by
   obtain ⟨q,h1,d⟩:=ih _ x h;exact ⟨q,Ce _ h1,d⟩
  split at a
  .rcases Gf.1 a with rfl | h
   .exact ⟨p,Dl ..,rfl⟩
   .exact c h
  .exact c a
def Amn {s:ByteArray} {x:Int×ByteArray} (h:x∈Fq s):x.2.size<=s.size:=by
 obtain ⟨p,h1,a⟩:=Amm 0 _ x h;have:=V6 h1;rw [a,K2,<- P5 s];exact this
structure Ad0 (v:au):Prop where
 name:Bm v.name=true
 parts:∀ p,p∈v.parts->Bm p=true
 one:1<=v.parts.length
 cap:v.cap.right=true
def Amo {s:ByteArray} (h:Bm s=true):s.size<=16:=by
 simp only [Bm,E7,I1] at h;exact h.1.2
def Ad1 {s:ByteArray} {v:au} (h:Ip s=some v):Ad0 v:=by
 by_cases c:I6 s
 .rw [V5 c] at h;cases h;obtain ⟨h1,b,d,a⟩:=c;refine ⟨b,d,by simp;omega,?_⟩;show (Ez (gj s 1)).1.right=true;unfold Ez at a ⊢;split at a
  .next hl=>
   rw [Ad hl];unfold V4.told at a ⊢;split at a
   .next hr=>rw [Ad hr];exact hr
   .cases a
  .cases a
 .rw [P6 c] at h;cases h
def Amp {s:ByteArray} {v:au} (h:Ip s=some v):v.parts.length<=s.size+1:=by
 by_cases c:I6 s
 .rw [V5 c] at h;cases h;have:=Zk s;simp;omega
 .rw [P6 c] at h;cases h
def Ad2 (xs:List au) (l:List (Int×ByteArray)) (h:(Bf xs l).2.1=0):(Bf xs l).2.2=0:=by
 induction l generalizing xs with
 | nil=>rfl
 | cons x l ih=>
  obtain ⟨i,b⟩:=x;simp only [Bf] at h ⊢
  cases hn:Ip b with
  | none=>rw [hn] at h;simp at h
  | some v=>
   rw [hn] at h;simp only at h ⊢;by_cases c:Db (xs.map au.name) xs.length v.name v.parts=0
   .rw [Ad c] at h ⊢;exact ih _ h
   .rw [Ac c] at h;exact absurd h c
structure S3 (R:Nat) (W W':WD) (p:VL) (e i:Int):Prop where
 size:W'.heap.size=W.heap.size
 c0:W'.heap[R]?=some (.cells #[p] 23 (0,0))
 c1:W'.heap[R+1]?=some (.cells #[.int .i64 e] 24 (0,0))
 c2:W'.heap[R+2]?=some (.cells #[.int .i64 i] 3 (0,0))
 other:∀ (k:Nat) (o:Obj),W.heap[k]?=some o->k≠R->k≠R+1->k≠R+2->W'.heap[k]?=some o
 low:∀ w,BW R w W->BW R w W'
 back:∀ (k:Nat),k≠R->k≠R+1->k≠R+2->W'.heap[k]?=W.heap[k]?
def Er  {b o k:Nat} {v:VL} (h:k≠b):(W.setCell ⟨b,o,none⟩ v).heap[k]?=W.heap[k]?:=Cm _ _ _ _ h
def Zr {R:Nat}  {a b c:VL} (h0:W.heap[R]?=some (.cells #[a] 23 (0,0))) (h1:W.heap[R+1]?=some (.cells #[b] 24 (0,0))) (l:W.heap[R+2]?=some (.cells #[c] 3 (0,0))) (p:VL) (e i:Int) :
  S3 R W (((W.setCell ⟨R,0,none⟩ p).setCell ⟨R+1,0,none⟩ (.int .i64 e)).setCell ⟨R+2,0,none⟩ (.int .i64 i)) p e i:=by
 have d:∀ (k:Nat),k≠R->k≠R+1->k≠R+2->(((W.setCell ⟨R,0,none⟩ p).setCell ⟨R+1,0,none⟩ (.int .i64 e)).setCell ⟨R+2,0,none⟩ (.int .i64 i)).heap[k]?=W.heap[k]?:=fun k f g j=>
  (Er j).trans ((Er g).trans (Er f))
 refine ⟨by simp [World.setCell],?_,?_,?_,fun k o m f g j=>(d k f g j).trans m,fun w h=>((h.setCell Ln _).setCell (Dx _) _).setCell (Nat.le_add_right _ _) _,d⟩
 .rw [Er (by omega),Er (by omega),Am h0];rfl
 .rw [Er (by omega),Am (c:=#[b]) (T:=24) (fr:=(0,0)) ((Er (by omega)).trans h1)];rfl
 .rw [Am (c:=#[c]) (T:=3) (fr:=(0,0)) ((Er (by omega)).trans ((Er (by omega)).trans l))];rfl
def ju.other {W l:WD} {p s base:Nat}  (h:ju W p s base vs) (r:W.heap.size<=l.heap.size) (d:∀ (k:Nat) (o:Obj),W.heap[k]?=some o->k=p\/k=s\/(base<=k/\o.isCells=true)->l.heap[k]?=some o):ju l p s base vs:=by
 obtain ⟨nv,xs,h1,i,t⟩:=h.ex;refine ⟨nv,xs,⟨d _ _ h1.head (.inl rfl),⟨h1.row.1,?_⟩,?_,fun x m=>?_⟩,i,t⟩
 .rcases h1.row.2 with h | ⟨g,cap,n,hv,j,hh,q⟩
  .exact .inl h
  .exact .inr ⟨g,cap,n,hv,j,d _ _ hh (.inr (.inr ⟨j,rfl⟩)),q⟩
 .obtain ⟨y,f,z,q⟩:=h1.map;exact ⟨y,f,d _ _ z (.inr (.inl rfl)),q⟩
 .have v:∀ b a,x.po=some ⟨b,a,none⟩->∃ c,W.heap[b]?=some (.cells c 9 (0,0))/\l.heap[b]?=some (.cells c 9 (0,0)):=fun b a e=>by
   obtain ⟨c,u⟩:=(h1.ok x m).2 b a e;exact ⟨c,u,d _ _ u (.inr (.inr ⟨t x m b a e,rfl⟩))⟩
  refine ⟨⟨N1 (h1.ok x m).1.parts r fun b a e _=>?_,(h1.ok x m).1.lg⟩,fun b a e=>?_⟩
  .obtain ⟨c,h1,i⟩:=v b a e;rw [h1,i]
  .obtain ⟨c,_,i⟩:=v b a e;exact ⟨c,i⟩
def Amq {w p n:WD} {d:List (Int×ByteArray)} {i:Int} {u:ByteArray} {j:VL} {xs:List aq} {x:aq} (e:ox w d p) (q:xs.map aq.pl=(Bf [] d).1)
  (h3:∀ y,y∈xs->∀ b f,y.po=some ⟨b,f,none⟩->w.heap.size+7<=b) (hs:Ip u=some x.pl) (t:∀ b f,x.po=some ⟨b,f,none⟩->w.heap.size+7<=b)
  (v:Db (xs.map aq.name) xs.length x.name x.parts=0) (hF:jk n (w.heap.size+4) (w.heap.size+3) (w.heap.size+7) j (xs++[x]))
  (l:Jr (w.heap.size+4) (w.heap.size+3) (w.heap.size+7) w.heap.size p n) (g:0<w.heap.size):ox w (d++[(i,u)]) n:=by
 have ac:=e.sz;have h4:=l.low.size;have s:xs.map aq.name=(Bf [] d).1.map au.name:=by rw [<- q,Dn];rfl
 have r:xs.length=(Bf [] d).1.length:=by rw [<- q,At]
 have z:Bf [] (d++[(i,u)])=((Bf [] d).1++[x.pl],0,0):=by rw [Wd _ _ _ e.ok,Adx hs];rw [s,r] at v;exact v
 have m:∀ {k:Nat} {o:Obj},p.heap[k]?=some o->k≠w.heap.size+4->k≠w.heap.size+3->k<w.heap.size+7->n.heap[k]?=some o:=fun hk a b c=>l.same _ _ hk b a (.inl c);refine ⟨⟨j,xs++[x],hF,by rw [z,C9,q];rfl,fun y hy=>?_⟩,by rw [z],e.low.trans l.low,?_,m e.c0 (by omega) (by omega) (by omega),m e.c1 (by omega) (by omega) (by omega),m e.c2 (by omega) (by omega) (by omega),m e.fx (by omega) (by omega) (by omega),by omega⟩
 .rcases Dh.1 hy with h | h
  .exact h3 y h
  .have:y=x:=by simpa using h
   subst this;exact t
 .exact e.mx.j9 (l.low.block 0 g)
def Amr {w e d:WD} {i:List (Int×ByteArray)} (f:ox w i e)
  (g:Jr (w.heap.size+4) (w.heap.size+3) (w.heap.size+7) w.heap.size e d) :
  d.heap[w.heap.size]?=some (.cells #[.pointer none] 23 (0,0))/\d.heap[w.heap.size+1]?=some (.cells #[.int .i64 0] 24 (0,0))/\d.heap[w.heap.size+2]?=some (.cells #[.int .i64 0] 3 (0,0))/\BW w.heap.size w d/\e.heap.size<=d.heap.size:=by
 have h:∀ {k:Nat} {o:Obj},e.heap[k]?=some o->k≠w.heap.size+4->k≠w.heap.size+3->k<w.heap.size+7->d.heap[k]?=some o:=fun j a b c=>g.same _ _ j b a (.inl c);exact ⟨h f.c0 (by omega) (by omega) (by omega),h f.c1 (by omega) (by omega) (by omega),h f.c2 (by omega) (by omega) (by omega),f.low.trans g.low,g.low.size⟩
attribute [local go_sem] Oper.semAt_some
def ou (w:WD) (s:ByteArray):WD:=
 ((((((w.alloc (.cells #[.pointer none] 23 (0,0))).alloc (.cells #[.int .i64 0] 24 (0,0))).alloc (.cells #[.int .i64 0] 3 (0,0))).alloc (.map #[] 0)).alloc (.cells #[.slice none 0 0,.map (some (w.heap.size+3))] 101 (0,0))).alloc (.cells #[.pointer (some ⟨w.heap.size+4,0,none⟩)] 23 (0,0))).alloc (.cells #[.string s] 9 (0,0))
def Ad3 (w:WD) (s:ByteArray):(ou w s).heap.size=w.heap.size+7:=by simp [ou]
def Ad4 (w:WD) (s:ByteArray):BW w.heap.size w (ou w s):=
 (((((Bn.alloc (by simp) _).alloc (by simp;omega) _).alloc (by simp;omega) _).alloc (by simp;omega) _).alloc (by simp;omega) _).alloc (by simp;omega) _
def Ams (w:WD) (s:ByteArray):(ou w s).heap[w.heap.size+6]?=some (.cells #[.string s] 9 (0,0)):=by
 unfold ou;exact A3 _ _ (by simp)
def Amt (w:WD) (s:ByteArray) (b:Mx w):ox w [] (ou w s):=by
 refine ⟨⟨.slice none 0 0,[],⟨?_,⟨rfl,.inl ⟨rfl,rfl⟩⟩,?_,fun x a=>by cases a⟩,rfl,fun x a=>by cases a⟩,rfl,Ad4 w s,b.low (Ad4 w s),?_,?_,?_,?_,by rw [Ad3];exact Nat.le_refl _⟩
 .unfold ou;exact Aj _ (Aj _ (A3 _ _ (by simp)))
 .have h0:=Yz ((((w.alloc (.cells #[.pointer none] 23 (0,0))).alloc (.cells #[.int .i64 0] 24 (0,0))).alloc (.cells #[.int .i64 0] 3 (0,0)))) prog 9 (plainElem (H:=Unit) prog 3);have h1:=((h0.alloc (.cells #[.slice none 0 0,.map (some (w.heap.size+3))] 101 (0,0))).alloc (.cells #[.pointer (some ⟨w.heap.size+4,0,none⟩)] 23 (0,0))).alloc (.cells #[.string s] 9 (0,0));simp only [I2] at h1;exact h1
 .unfold ou;exact Aj _ (Aj _ (Aj _ (Aj _ (Aj _ (Aj _ (Ah _ _))))))
 .unfold ou;exact Aj _ (Aj _ (Aj _ (Aj _ (Aj _ (A3 _ _ (by simp))))))
 .unfold ou;exact Aj _ (Aj _ (Aj _ (Aj _ (A3 _ _ (by simp)))))
 .unfold ou;exact Aj _ (A3 _ _ (by simp))
def Zs (s:ByteArray) (w:WD) (e:Ending) (w':WD):Prop:=
 ∃ p,e=.returned (.tuple #[.pointer p,.int .i64 (Ej s).2.1,.int .i64 (Ej s).2.2])/\BW w.heap.size w w' /\
  (((Ej s).2.1≠0/\p=none)\/((Ej s).2.1=0/\p=some ⟨w.heap.size+4,0,none⟩/\ju w' (w.heap.size+4) (w.heap.size+3) (w.heap.size+7) (Ej s).1))
def Amu (s:ByteArray) (w:WD) (b:4096<s.size):CS prog 13 #[.string s] w (Zs s w):=by
 have a:Ej s=([],2,0):=Ad b;have c:decide ((4096:Int)<s.size)=true:=Av (by omega);replace a:=Hh a;go_enter func13,ntmps13;go_wp2;refine Ak (v:=.tuple #[.pointer none,.int .i64 2,.int .i64 0]) (by simp [results,results13,go_sem]) rfl ?_;refine ⟨none,by rw [a.out],?_,.inl ⟨by rw [a.out];decide,rfl⟩⟩;exact (Bn.alloc (by simp) _).alloc (by simp;omega) _
def Amv (s:ByteArray) (w:WD) (hm:Mx w) (hs:¬ 4096<s.size):CS prog 13 #[.string s] w (Zs s w):=by
 have hr:Ej s=Bf [] (Fq s):=Ac hs;have a3:=@run_makeMap prog;have d1:decide ((4096:Int)<s.size)=false:=Ax (by omega);have aK:=hm;replace ⟨hr,aK,hm⟩:=H3 hr aK hm;refine (O2 (n:=8)).1 ?_;refine callsIn_of_wp_marks func13 rfl trivial ?_ rfl;simp only [ntmps13,Ve,Il,P1,Nat.reduceAdd,Nat.reduceSub,Yt,Yu,Y4,Yx,Rg,Ox]
 gi_wp2_with fail
 refine ⟨trivial,(O2.2 (Amk s _)).mono ?_⟩;rintro e w1 ⟨rfl,a7⟩
 gi_wp2_with fail
 subst a7;clear a3;change Code.wpIn _ _ _ _ _ { tmps:=#[.string s,undef,.pointer (some ⟨w.heap.size,0,none⟩),.pointer (some ⟨w.heap.size+1,0,none⟩),.pointer (some ⟨w.heap.size+2,0,none⟩),.pointer (some ⟨w.heap.size+5,0,none⟩),undef,undef,undef,undef,.string s,.int .i64 s.size,.bool false,.map (some (w.heap.size+3)),.agg #[.slice none 0 0,.map (some (w.heap.size+3))],.pointer (some ⟨w.heap.size+4,0,none⟩),.string s,.func (.func 75) #[] #[.pointer (some ⟨w.heap.size+6,0,none⟩)],undef,undef,undef,undef,undef,undef,undef,undef,undef,undef,undef,undef,undef,undef,undef,undef,undef],defers:=[] } (ou w s);have hS:=Amt w s aK.out;have aX:=Ad3 w s;have aI:=Ams w s;have aL:=hS.mx;have aP:=aK.pos;generalize ou w s=W1 at hS aX aI aL ⊢;replace ⟨hS,aI,aL⟩:=H3 hS aI aL;refine Amg rfl (by omega) (gf:=75) (lb:=#[.pointer (some ⟨w.heap.size+6,0,none⟩)]) rfl trivial (enters_of func75 (by kernel_rfl) rfl)
  (Amj 7 (by omega) (w.heap.size+6) s W1 (by omega) aI.out aL.out (by omega)) (by omega) (by omega) (Below.refl _ _) (fun _=>rfl)
  (ox w) (fun c j W=>c=.ret/\vf w j W) ?hI ?hIx ?hIb ?hIxb hS.out
  (fun x=>{ tmps:=#[.string s,undef,.pointer (some ⟨w.heap.size,0,none⟩),.pointer (some ⟨w.heap.size+1,0,none⟩),.pointer (some ⟨w.heap.size+2,0,none⟩),.pointer (some ⟨w.heap.size+5,0,none⟩),.int .i64 x.1,.string x.2,undef,undef,.string s,.int .i64 s.size,.bool false,.map (some (w.heap.size+3)),.agg #[.slice none 0 0,.map (some (w.heap.size+3))],.pointer (some ⟨w.heap.size+4,0,none⟩),.string s,.func (.func 75) #[] #[.pointer (some ⟨w.heap.size+6,0,none⟩)],.int .i64 x.1,.string x.2,undef,undef,undef,undef,undef,undef,undef,undef,undef,undef,undef,undef,undef,undef,undef],defers:=[] }) ?assign ?body ?done ?stop
 case hI=>
  intro j A B row h hg aW;exact h.grown hg fun r e=>.inr (by rw [<- aX];exact aW r e)
 case hIx=>
  rintro c j A B row ⟨rfl,h⟩ hg aW;exact ⟨rfl,h.grown hg fun r e=>.inr (by rw [<- aX];exact aW r e)⟩
 case hIb=>
  intro j A B h hg;exact h.grown hg fun r e=>.inl (by cases e;rfl)
 case hIxb=>
  rintro c j A B ⟨rfl,h⟩ hg;exact ⟨rfl,h.grown hg fun r e=>.inl (by cases e;rfl)⟩
 case assign=>
  intro l x W K t
  gi_wp2
  exact t
 case body=>
  rintro l j ⟨i,ln⟩ W hI v;have aA:(i,ln)∈Fq s:=v.subset (by simp);have aJ:=Amn aA;have ad:=Ama ln W hI.mx (by have:ln.size<=s.size:=aJ;omega);replace ⟨hI,v,aA,aJ,ad⟩:=H5 hI v aA aJ ad
  gi_wp2_with fail
  refine ⟨trivial,((O2.2 ad.out).inRound l).mono ?_⟩;rintro e w2 ⟨x,r,rfl,aB,f,av,aR⟩;have d:=hI.below f;have c0:=Aa d.c0 0;have c1:=Aa d.c1 0;have c2:=Aa d.c2 0;have c5:=Aa d.fx 0;have f0:=Af d.c0 0;have f1:=Af d.c1 0;have f2:=Af d.c2 0;have l0:=Ab d.c0;have l1:=Ab d.c1;have l2:=Ab d.c2;have l5:=Ab d.fx;simp at c0 c1 c2 c5;rcases aR with ⟨al,rfl,rfl⟩ | ⟨q,rfl⟩
  .have a:=Zr d.c0 d.c1 d.c2 (.pointer none) 50 i;have y:Bf [] (j++[(i,ln)])=((Bf [] j).1,50,i):=(by rw [Wd _ _ _ hI.ok,Adw al]);have a8:=d.sz;replace ⟨d,aB,f,av,al,a,y⟩:=H7 d aB f av al a y
   gi_wp2
   refine ⟨?_,rfl,?_⟩
   .refine ⟨?_,fun k o hk hh ho=>Aj _ (a.other k o (Ae f.out hh (Ab hh)) (by omega) (by omega) (by omega))⟩;have:=a.size;have:=f.size;rw [I2];omega
   .refine ⟨(a.low _ d.low).alloc (a.low _ d.low).size _,by rw [y.out];show (50:Int)≠0;decide,Aj _ a.c0,by rw [y.out];exact Aj _ a.c1,by rw [y.out];exact Aj _ a.c2,?_⟩;have:=a.size;rw [I2];omega
  .have aS:=Ad1 q;have aU:=Amp q;have aT:=Amo aS.name;obtain ⟨W3,aH⟩:=Ex (w2.alloc (.cells x.cells 69 (0,0)));have g:BW w2.heap.size w2 W3:=(by rw [aH];exact Bn);have ap:=d.below g;have am:=aB.low g
   have aC:K4 W3 x:=fun b aY e=>by
    obtain ⟨_,c,hc⟩:=av b aY e;exact ⟨c,Ae g hc (Ab hc)⟩
   obtain ⟨nv,xs,h1,h2,h3⟩:=ap.fl.ex;have aD:=fun b aY e=>A5 hI.sz (av b aY e).1;have aV:x.pn<=4294967296:=(by have e1:=am.parts.len;have e2:x.parts.length<=ln.size+1:=aU;have:ln.size<=s.size:=aJ.out;omega);have z:=Amf W3 (w.heap.size+4) (w.heap.size+3) (w.heap.size+7) w.heap.size nv xs x h1 am aC (by have:maxLen=9223372036854775807:=rfl;have:x.name.size<=16:=aT;omega) aV (by omega) (by omega) (by omega) ap.sz;obtain ⟨E,hE⟩:=Ex (Db (xs.map aq.name) xs.length x.name x.parts);rw [<- hE] at z;have aM:xs.map aq.name=(Bf [] j).1.map au.name:=(by rw [<- h2,Dn];rfl);have aO:xs.length=(Bf [] j).1.length:=(by rw [<- h2,At]);obtain ⟨nm,⟨ca,cb,cc,cd⟩,po,pn,pc,ps⟩:=x;rw [aH] at z;replace ⟨d,aB,f,av,q,aS,aU,aT⟩:=H8 d aB f av q aS aU aT;replace ⟨g,ap,am,aC,h1,h2,h3,aD⟩:=H8 g ap am aC h1 h2 h3 aD;replace ⟨aV,z,hE,aM,aO⟩:=H5 aV z hE aM aO;have aZ:=Hh aH;clear aH
   gi_wp2_with fail
   refine ⟨trivial,((O2.2 z.out).inRound l).mono ?_⟩;rintro e w4 ⟨a9,rfl,ao,t⟩;rw [<- aZ.out] at t;have a5:=Amr ap.out t;obtain ⟨q0,q1,q2,u,p⟩:=a5;clear c0 c1 c2 c5 f0 f1 f2 l0 l1 l2 l5;by_cases an:E=0
   .subst an;rw [Ad rfl] at ao;have aQ:ox w (j++[(i,ln)]) w4:=Amq ap.out h2.out h3.out q.out aD.out hE.symm ao t aP;replace ⟨ao,t,q0,q1,q2,u,p,aQ⟩:=H8 ao t q0 q1 q2 u p aQ
    gi_wp2
    have aE:=A5 f.size g.size;have aF:=fun k hk=>(g.block k (Bx hk f.size)).trans (f.block k hk);have a6:=hI.sz;refine ⟨⟨A5 aE p.out,fun k o hk hh ho=>?_⟩,⟨?_,?_⟩,aQ.out⟩
    .exact (t.keeps (B:=W1.heap.size) (by omega) (by omega) p.out).same k o hk ((aF k (Ab hh)).trans hh) ho
    .exact (t.ar (by omega) (by omega) (by omega) (by omega)).trans (aF _ (by omega))
    .exact (t.low.block 0 aP).trans (aF _ (by omega))
   .have y:Bf [] (j++[(i,ln)])=((Bf [] j).1,E,i):=by
     rw [Wd _ _ _ hI.ok,Ady q.out]
     .rw [<- aM.out,<- aO.out];rw [hE.out];rfl
     .rw [<- aM.out,<- aO.out];exact fun c=>an (hE.trans c)
    have a:=Zr q0 q1 q2 (.pointer none) E i;have c0:=Aa q0 0;have c1:=Aa q1 0;have c2:=Aa q2 0;have f0:=Af q0 0;have f1:=Af q1 0;have f2:=Af q2 0;simp at c0 c1 c2;have dE:(E != 0)=true:=(by simpa using an);replace ⟨ao,t,q0,q1,q2,u,p,an⟩:=H8 ao t q0 q1 q2 u p an;replace ⟨y,a⟩:=H2 y a
    gi_wp2
    have aE:=A5 f.size g.size;have aF:=fun k hk=>(g.block k (Bx hk f.size)).trans (f.block k hk);have a6:=hI.sz;refine ⟨⟨by rw [a.size];exact A5 aE p.out,fun k o hk hh ho=>?_⟩,rfl,a.low _ u.out,by rw [y.out];exact an.out,a.c0,by rw [y.out];exact a.c1,by rw [y.out];exact a.c2,by rw [a.size];have:=p.out;omega⟩;exact a.other k o ((t.keeps (B:=W1.heap.size) (by omega) (by omega) p.out).same k o hk ((aF k (Ab hh)).trans hh) ho) (by omega) (by omega) (by omega)
 case done=>
  intro D W hD hI t;have c0:=Aa hI.c0 0;have c1:=Aa hI.c1 0;have c2:=Aa hI.c2 0;have c5:=Aa hI.fx 0;have f0:=Af hI.c0 0;have f1:=Af hI.c1 0;have f2:=Af hI.c2 0;simp at c0 c1 c2 c5;have a:=Zr hI.c0 hI.c1 hI.c2 (.pointer (some ⟨w.heap.size+4,0,none⟩)) 0 0;have hz:=Ad2 [] (Fq s) hI.ok;have a0:=Ab t;have aG:=a.other D _ t (by omega) (by omega) (by omega);replace ⟨hI,t,a,hz,aG⟩:=H5 hI t a hz aG
  gi_wp2
  refine ⟨by simp,.inl ⟨_,_,rfl,run_takeDeferred aG.out,?_⟩⟩;obtain ⟨W5,a2⟩:=Ex ((((W.setCell ⟨w.heap.size,0,none⟩ (.pointer (some ⟨w.heap.size+4,0,none⟩))).setCell ⟨w.heap.size+1,0,none⟩ (.int .i64 0)).setCell ⟨w.heap.size+2,0,none⟩ (.int .i64 0)));have ac:=a.out;have a1:=aG.out;rw [<- a2] at ac a1 ⊢;have g0:=Aa ((World.putObj_heap_other (o:=.deferred none) (show w.heap.size≠D by omega)).trans ac.c0) 0;have g1:=Aa ((World.putObj_heap_other (o:=.deferred none) (show w.heap.size+1≠D by omega)).trans ac.c1) 0;have g2:=Aa ((World.putObj_heap_other (o:=.deferred none) (show w.heap.size+2≠D by omega)).trans ac.c2) 0;simp at g0 g1 g2;refine ⟨.tuple #[.pointer (some ⟨w.heap.size+4,0,none⟩),.int .i64 0,.int .i64 0],by simp [results,results13,go_sem,g0,g1,g2],some ⟨w.heap.size+4,0,none⟩,by rw [hr.out,hI.ok,hz.out],?_,.inr ⟨by rw [hr.out];exact hI.ok,rfl,?_⟩⟩
  .exact (ac.low _ hI.low).grown (grownBy_putObj' _ D _) (ac.low _ hI.low).size (fun k e=>by cases e;omega)
  .rw [hr.out];refine hI.fl.other (by have:=ac.size;simp [World.putObj];omega) fun k o hk hc=>?_
   have a4:k≠D:=fun e=>by
    subst e;rw [t.out] at hk;cases hk;rcases hc with e | e | ⟨_,e⟩
    .omega
    .omega
    .simp [Obj.isCells] at e
   exact (World.putObj_heap_other a4).trans (ac.other k o hk (by omega) (by omega) (by omega))
 case stop=>
  rintro D c j ⟨i,ln⟩ W hD v ⟨rfl,hX⟩ t;have a0:=Ab t;have aN:Bf [] (Fq s)=Bf [] (j++[(i,ln)]):=by obtain ⟨m,hm⟩:=v;rw [<- hm,Adv _ _ _ hX.bad]
  replace ⟨hX,t,aN,v⟩:=H4 hX t aN v
  gi_wp2
  refine ⟨by simp,.inl ⟨_,_,rfl,run_takeDeferred t.out,?_⟩⟩;have g0:=Aa ((World.putObj_heap_other (o:=.deferred none) (show w.heap.size≠D by omega)).trans hX.c0) 0;have g1:=Aa ((World.putObj_heap_other (o:=.deferred none) (show w.heap.size+1≠D by omega)).trans hX.c1) 0;have g2:=Aa ((World.putObj_heap_other (o:=.deferred none) (show w.heap.size+2≠D by omega)).trans hX.c2) 0;simp at g0 g1 g2;refine ⟨.tuple #[.pointer none,.int .i64 (Bf [] (j++[(i,ln)])).2.1,.int .i64 (Bf [] (j++[(i,ln)])).2.2],by simp [results,results13,go_sem,g0,g1,g2],none,by rw [hr.out,aN.out],?_,.inl ⟨by rw [hr.out,aN.out];exact hX.bad,rfl⟩⟩;exact hX.low.grown (grownBy_putObj' _ D _) hX.low.size (fun k e=>by cases e;omega)
def Ad5 (s:ByteArray) (w:WD) (b:Mx w):CS prog 13 #[.string s] w (Zs s w):=by
 by_cases a:4096<s.size
 .exact Amu s w a
 .exact Amv s w b a
def K6:Nat->List au->ByteArray->List Int
 | _,[],_=>[]
 | k,v :: vs,p=>if Gi v.parts p=true then (k:Int) :: K6 (k+1) vs p else K6 (k+1) vs p
def Dc (vs:List au) (p:ByteArray):List Int:=K6 0 vs p
def Amw (a b:List au) (p:ByteArray) (k:Nat):K6 k (a++b) p=K6 k a p++K6 (k+a.length) b p:=by
 induction a generalizing k with
 | nil=>simp [K6]
 | cons v a ih=>
  simp only [Ox,K6,Il];rw [ih,show k+1+a.length=k+(a.length+1) by omega]
  split<;>simp
def I7 {α:Type} {l:List α}  {x:α} (h:l[k]?=some x):l.take (k+1)=l.take k++[x]:=by
 rw [Ov,h];rfl
def Ad6   {v:au} (p:ByteArray) (h:vs[k]?=some v):Dc (vs.take (k+1)) p=Dc (vs.take k) p++(if Gi v.parts p=true then [(k:Int)] else []):=by
 have a:=(Ao.1 h).1;unfold Dc;rw [I7 h,Amw,E8,Ly (by omega),Da];simp only [K6]
def Amx   {v:au} {p:ByteArray} (h:vs[k]?=some v) (a:Gi v.parts p=true):Dc (vs.take (k+1)) p=Dc (vs.take k) p++[(k:Int)]:=by
 rw [Ad6 p h,Ad a]
def Amy   {v:au} {p:ByteArray} (h:vs[k]?=some v) (a:Gi v.parts p=false):Dc (vs.take (k+1)) p=Dc (vs.take k) p:=by
 rw [Ad6 p h,Ac (by rw [a];simp),Oz]
def Ad7 (vs:List au) (p:ByteArray) (k:Nat):(K6 k vs p).length<=vs.length:=by
 induction vs generalizing k with
 | nil=>simp [K6]
 | cons v vs ih=>
  have:=ih (k+1);simp only [K6]
  split<;>simp<;>omega
def Amz (vs:List au) (p:ByteArray):(Dc vs p).length<=vs.length:=Ad7 vs p 0
def We (a b:V4):V4:=⟨a.a+b.a,a.b+b.b,a.c+b.c,a.d+b.d⟩
def N4 (v:au) (p:ByteArray):Bool:=p.toList.isEmpty || Gi v.parts p
def D4 (vs:List au) (p:ByteArray):V4:=vs.foldl (fun a v=>if N4 v p=true then We a v.cap else a) V4.zero
structure Wf (v:V4):Prop where
 a0:0<=v.a
 a1:v.a<=1073741824
 b0:0<=v.b
 b1:v.b<=1073741824
 c0:0<=v.c
 c1:v.c<=1073741824
 d0:0<=v.d
 d1:v.d<=1073741824
structure Am0 (v:V4) (n:Nat):Prop where
 a0:0<=v.a
 a1:v.a<=1073741824*n
 b0:0<=v.b
 b1:v.b<=1073741824*n
 c0:0<=v.c
 c1:v.c<=1073741824*n
 d0:0<=v.d
 d1:v.d<=1073741824*n
def Am2 (l:List ByteArray) (x:ByteArray):Lib.containsS l x=Gi l x:=by
 rw [Nw,Lib.containsS_iff,N3]
def Ad8 (w:WD) (po:Option Addr) (pn pc:Nat) (a:List ByteArray) (s:ByteArray) (h:D3 w po pn a):CS prog 209 #[.slice po pn pc,.string s] w fun e w'=>e=.returned (.bool (Gi a s))/\w'=w:=by
 have i:=h.len;have l:=h.max;by_cases h0:pn=0
 .subst h0;have:a=[]:=Gd.1 i;subst this;exact Tryz.slices_Contains_string_empty po pc s w
 .obtain ⟨b,d,rfl,k,_⟩:=h.cell 0 (a[0]'(by omega)) (by simp);refine (Tryz.slices_Contains_string b d pn pc a s w (by omega) l fun j c=>?_).mono ?_
  .obtain ⟨m,f,e,_,g⟩:=h.cell j (a[j]'c) (by simp [c]);cases e;rw [g];simp [List.getD,c]
  .rintro e w' ⟨rfl,rfl⟩;rw [C8 (by omega),Am2];exact ⟨rfl,rfl⟩
def Bu (xs:List Int):List VL:=xs.map fun n=>.int .i64 n
structure Al (w:WD) (B:Nat) (v:VL) (xs:List Int):Prop where
 row:w.ownsRow B 3 1 v xs.length (Bu xs)
def Ad9 (vs:List au) (p:ByteArray) (w:WD) (e:Ending) (w':WD):Prop:=∃ v,e=.returned v/\Al w' w.heap.size v (Dc vs p)/\BW w.heap.size w w'
def M1:(prog.info? 3).map (fun i=>(i.zero,i.size,i.bytes))=some (some (.int .i64 0),1,8):=by kernel_rfl
def Zu (w:WD) (n:Int):∀ j u,([.int .i64 n]:List VL)[j]?=some u->(w.alloc (.cells #[.int .i64 n] 3 (0,0))).cell? ((⟨w.heap.size,0,none⟩:Addr).add j)=some u:=by
 intro j u a
 match j,a with
 | 0,a=>
  have:=Aa (Ah w (.cells #[.int .i64 n] 3 (0,0))) 0;simp at a;subst a;exact this
 | j+1,a=>simp at a
def Zv {xs:List aq}  {x:aq} (h:xs[k]?=some x):(xs.map aq.pl)[k]?=some x.pl:=by rw [Bh,h];rfl
def Am3 (w:WD) (fb mb base:Nat) (nv:VL) (xs:List aq) (p:ByteArray) (hF:jk w fb mb base nv xs) (al:xs.length<=4096):CS prog 154 #[.pointer (some ⟨fb,0,none⟩),.string p] w (Ad9 (xs.map aq.pl) p w):=by
 obtain ⟨i3,ap,av,am,an⟩:=Cb M1;obtain ⟨n,hn⟩:=Ex (xs.length);have q:=Zt w fb mb base nv xs hF;rw [<- hn] at q al;replace ⟨hF,hn,q⟩:=H3 hF hn q;go_enter func154,ntmps154;go_wp2_with fail;refine q.mono ?_;rintro e w1 ⟨rfl,rfl⟩;go_wp2;go_loopw [5,9] (fun ov i wr=>∃ k:Nat,i=.int .i64 k/\k<=n/\Hid (Al wr w1.heap.size ov (Dc ((xs.map aq.pl).take k) p))/\Hid (BW w1.heap.size w1 wr)) (fun _ i _=>n-(intOf i).toNat)
 case atStart=>exact ⟨0,rfl,Aq _,⟨rfl,.inl ⟨rfl,rfl⟩⟩,Below.refl _ _⟩
 case round=>
  obtain ⟨k,rfl,hk,hO,hB⟩:=hrel;by_cases hc:k<n
  .have ao:(k:Int)<n:=(by omega);have aB:(0:Int)<=(k:Int):=(by omega);have m:=hF.below hB.out;obtain ⟨g,cap,rfl⟩:=Joins.ownsRow_form m.row (by have:=hn.out;omega);obtain ⟨x,hx⟩:=Ge xs k (by have:=hn.out;omega);obtain ⟨g',e1,_,_,c⟩:=m.cell hx;have e2:g=g':=(by simpa [Value.ownBlock] using e1);subst e2;have c5:wr.cell? ⟨g,k*6+5,none⟩=some (.slice x.po x.pn x.pc):=c 5 (by omega);have f0:=Aa m.head 0;simp at f0;rw [<- hn.out] at f0;have o:=Ad8 wr x.po x.pn x.pc x.parts p (m.ok x (Ai hx)).1.parts;obtain ⟨b,hb⟩:=Ex (Gi x.parts p);rw [<- hb] at o;have r:=Zv hx;replace ⟨m,hx,o,hb,r,c,e1⟩:=H7 m hx o hb r c e1
   cases b with
   | false=>
    have v:Al wr w1.heap.size u5 (Dc ((xs.map aq.pl).take (k+1)) p):=(by rw [Amy r.out hb.symm];exact hO.out);replace v:=Hh v;go_wp2_with fail
    (with_reducible refine o.out.mono ?_)
    rintro e wr ⟨rfl,rfl⟩;go_wp2;go_roundw
    case rel=>exact ⟨k+1,by go_num,by omega,v.out,hB.out⟩
    case measure=>simp [intOf];omega
   | true=>
    obtain ⟨L,hL⟩:=Ex ((Dc ((xs.map aq.pl).take k) p).length);have aA:L<=k:=(by rw [hL];refine A5 (Amz _ _) ?_;rw [E8];omega);have j:(wr.alloc (.cells #[.int .i64 (k:Int)] 3 (0,0))).ownsRow w1.heap.size 3 1 u5 L (Bu (Dc ((xs.map aq.pl).take k) p)):=(by rw [hL];exact hO.row.alloc (.cells #[.int .i64 (k:Int)] 3 (0,0)));have f:=Zu wr (k:Int);have h:∀ u∈([.int .i64 (k:Int)]:List VL),u.oneCell'=true:=(by simp [Value.oneCell']);have s:=G4 (n:=L) (by omega);have z:(L+1)*8<=140737488355328:=(by omega);have l:w1.heap.size<=(wr.alloc (.cells #[.int .i64 (k:Int)] 3 (0,0))).heap.size:=(by have:=hB.size;simp;omega);replace ⟨hL,j,f,h,s,z,l⟩:=H7 hL j f h s z l;go_wp2_with fail
    (with_reducible refine o.out.mono ?_)
    rintro e wr ⟨rfl,rfl⟩;go_wp2_with (at_builtin;refine Ms _ rfl _ _ 31 rfl w1.heap.size 3 i3 _ 1 8 Nn ap av am an rfl (by decide) _ L _ rfl j.out ⟨wr.heap.size,0,none⟩ 1 1 [.int .i64 (k:Int)] rfl rfl f.out h.out s.out z.out l.out ?_;intro v1 w7 a d _;obtain ⟨g7,ad,rfl⟩:=Joins.ownsRow_form a (by omega);replace ⟨a,d⟩:=H2 a d);have y:Al w7 w1.heap.size (.slice (some ⟨g7,0,none⟩) (L+1) ad) (Dc ((xs.map aq.pl).take (k+1)) p):=(by rw [Amx r.out hb.symm];refine ⟨?_⟩;rw [Cn,<- hL.out];simpa [Bu] using a.out);have t:=(hB.alloc hB.size _).grown d.out l.out (fun k hk=>(hO.row.lt k hk).1);replace ⟨y,t⟩:=H2 y t;go_roundw
    case rel=>exact ⟨k+1,by go_num,by omega,y.out,t.out⟩
    case measure=>simp [intOf];omega
  .have ao:¬ (k:Int)<n:=(by omega);have ac:(xs.map aq.pl).take k=xs.map aq.pl:=C8 (by rw [At];have:=hn.out;omega);replace ac:=Hh ac;go_wp2;go_ret;exact ⟨u5,rfl,by have:=hO.out;rw [ac.out] at this;exact this,hB.out⟩
structure ja (w:WD) (v:V4) (W:WD):Prop where
 low:BW w.heap.size w W
 r0:W.heap[w.heap.size]?=some (.cells V4.zero.cells 30 (0,0))
 r1:W.heap[w.heap.size+1]?=some (.cells v.cells 30 (0,0))
def ja.set  {v a:V4} (h:ja w v W) (o:Nat) (x:VL) (e:v.cells.setIfInBounds o x=a.cells):ja w a (W.setCell ⟨w.heap.size+1,o,none⟩ x):=
 ⟨h.low.setCell (Dx _) _,C0 (Nat.ne_of_lt (Nat.lt_succ_self _)) _ h.r0,by rw [Am h.r1,e]⟩
def K7 (u c:V4) (k:Nat):V4:=⟨if 0<k then u.a+c.a else u.a,if 1<k then u.b+c.b else u.b,if 2<k then u.c+c.c else u.c,if 3<k then u.d+c.d else u.d⟩
def Zw (vs:List au) (p:ByteArray) (w:WD) (e:Ending) (w':WD):Prop:=e=.returned (D4 vs p).val/\BW w.heap.size w w'
