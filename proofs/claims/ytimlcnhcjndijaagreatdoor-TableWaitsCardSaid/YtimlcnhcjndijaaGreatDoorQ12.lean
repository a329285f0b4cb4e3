/- Parts Rdq, Rdr, Rdf, Fpl, Fin, Fto. Plain theorems: no condition. -/
import Derived.Test.YtimlcnhcjndijaaGreatDoorQ11
import Derived.Maps.OwnIn
set_option linter.all false
set_option maxRecDepth 100000
set_option maxHeartbeats 6400000
namespace Go.Proofs.YtimlcnhcjndijaaGreatDoor
open Go.RowKit Go.Maps Go.Shelf
structure ir (W:World) (fb mb base:Nat) (vs:List ax):Prop where
 ex:∃ nv xs,jf W fb mb base nv xs/\xs.map ar.pl=vs/\∀ x,x∈xs->∀ b off,x.po=some ⟨b,off,none⟩->base<=b
def ir.below {w w':World} {a b base:Nat} {vs:List ax} (h:ir w a b base vs) (c:Below w.heap.size w w'):ir w' a b base vs:=by
 obtain ⟨d,xs,h1,e,f⟩:=h.ex;exact ⟨d,xs,h1.below c,e,f⟩
def Akb {w w':World} {j l base:Nat} {o:Value} {xs:List ar} {row:Option Nat} (h:jf w j l base o xs) (p:w.grownBy w' row) (s:row≠some l)
  (t:∀ x,x∈xs->∀ b a,x.po=some ⟨b,a,none⟩->base<=b) (d:∀ (k:Nat) (c:Array Value) (T:TypeId) (fr:Nat×Nat),(k=j\/base<=k)->w.heap[k]?=some (.cells c T fr)->w'.heap[k]?=some (.cells c T fr)):jf w' j l base o xs:=by
 refine ⟨d _ _ _ _ (.inl rfl) h.head,⟨h.row.1,?_⟩,h.map.kept p (Ne.symm s),fun x i=>?_⟩
 .rcases h.row.2 with h | ⟨g,cap,m,u,f,v,y⟩
  .exact .inl h
  .exact .inr ⟨g,cap,m,u,f,d _ _ _ _ (.inr f) v,y⟩
 .have q:∀ b a,x.po=some ⟨b,a,none⟩->∃ c,w.heap[b]?=some (.cells c 9 (0,0))/\w'.heap[b]?=some (.cells c 9 (0,0)):=fun b a e=>by
   obtain ⟨c,r⟩:=(h.ok x i).2 b a e;exact ⟨c,r,d _ _ _ _ (.inr (t x i b a e)) r⟩
  refine ⟨⟨U6 (h.ok x i).1.parts p.size fun b a e _=>?_,(h.ok x i).1.mh⟩,fun b a e=>?_⟩
  .obtain ⟨c,h1,n⟩:=q b a e;rw [h1,n]
  .obtain ⟨c,_,n⟩:=q b a e;exact ⟨c,n⟩
def Akc (xs:List ax) (l m:List (Int×ByteArray)) (h:(Bo xs l).2.1≠0):Bo xs (l++m)=Bo xs l:=by
 induction l generalizing xs with
 | nil=>exact absurd rfl h
 | cons x l ih=>
  obtain ⟨i,b⟩:=x;show Bo xs ((i,b) :: (l++m))=_;simp only [Bo] at h ⊢
  cases hn:Ip b with
  | none=>rfl
  | some v=>
   rw [hn] at h;simp only at h ⊢;by_cases c:Eb (xs.map ax.name) xs.length v.name v.parts=0
   .rw [Ad c] at h ⊢;rw [Ad c];exact ih _ h
   .rw [Ac c,Ac c]
def Akd {xs:List ax} {i:Int} {l:ByteArray} (h:Ip l=none):Bo xs [(i,l)]=(xs,50,i):=by
 simp only [Bo,h]
def Ake {xs:List ax} {i:Int} {l:ByteArray} {v:ax} (h:Ip l=some v) (a:Eb (xs.map ax.name) xs.length v.name v.parts=0):Bo xs [(i,l)]=(xs++[v],0,0):=by
 simp only [Bo,h,Ad a]
def Akf {xs:List ax} {i:Int} {l:ByteArray} {v:ax} (h:Ip l=some v) (a:Eb (xs.map ax.name) xs.length v.name v.parts≠0):Bo xs [(i,l)]=(xs,Eb (xs.map ax.name) xs.length v.name v.parts,i):=by
 simp only [Bo,h,Ac a]
structure ou (w:World) (pre:List (Int×ByteArray)) (W:World):Prop where
 fl:ir W (w.heap.size+4) (w.heap.size+3) (w.heap.size+7) (Bo [] pre).1
 ok:(Bo [] pre).2.1=0
 low:Below w.heap.size w W
 mx:Mx W
 c0:W.heap[w.heap.size]?=some (.cells #[.pointer none] 23 (0,0))
 c1:W.heap[w.heap.size+1]?=some (.cells #[.int .i64 0] 24 (0,0))
 c2:W.heap[w.heap.size+2]?=some (.cells #[.int .i64 0] 3 (0,0))
 fx:W.heap[w.heap.size+5]?=some (.cells #[.pointer (some ⟨w.heap.size+4,0,none⟩)] 23 (0,0))
 sz:w.heap.size+7<=W.heap.size
structure vd (w:World) (pre:List (Int×ByteArray)) (W:World):Prop where
 low:Below w.heap.size w W
 bad:(Bo [] pre).2.1≠0
 c0:W.heap[w.heap.size]?=some (.cells #[.pointer none] 23 (0,0))
 c1:W.heap[w.heap.size+1]?=some (.cells #[.int .i64 (Bo [] pre).2.1] 24 (0,0))
 c2:W.heap[w.heap.size+2]?=some (.cells #[.int .i64 (Bo [] pre).2.2] 3 (0,0))
 sz:w.heap.size+7<=W.heap.size
def uw (w W:World) (row:Option Nat):Prop:=∀ r,row=some r->r=w.heap.size+6\/(w.heap.size+7<=r/\∃ o:Obj,W.heap[r]?=some o/\o.isCells=false)
def Ou {w W a:World} {row:Option Nat} (d:W.grownBy a row) (f:uw w W row) {k:Nat} {c:Array Value} {T:TypeId} {fr:Nat×Nat} (g:k≠w.heap.size+6) (h:W.heap[k]?=some (.cells c T fr)):a.heap[k]?=some (.cells c T fr):=
 (d.block k (Ab h) (fun e=>by
  rcases f k e.symm with e | ⟨_,o,b,i⟩
  .exact g e
  .rw [h] at b;cases b;simp [Obj.isCells] at i)).trans h
def Abq {w W a:World} {row:Option Nat} (b:W.grownBy a row) (c:uw w W row) (h:Below w.heap.size w W):Below w.heap.size w a:=
 h.grown b h.size (fun k e=>by rcases c k e with e | ⟨e,_⟩<;>omega)
def ou.grown {w W f:World} {d:List (Int×ByteArray)} {row:Option Nat} (h:ou w d W) (a:W.grownBy f row) (b:uw w W row):ou w d f:=by
 obtain ⟨i,xs,h1,j,g⟩:=h.fl.ex;refine ⟨⟨i,xs,Akb h1 a (fun e=>?_) g (fun k c T fr m l=>Ou a b (by omega) l),j,g⟩,h.ok,Abq a b h.low,?_,Ou a b (by omega) h.c0,Ou a b (by omega) h.c1,Ou a b (by omega) h.c2,Ou a b (by omega) h.fx,A6 h.sz a.size⟩
 .rcases b _ e with e | ⟨e,_⟩<;>omega
 .refine h.mx.jz (a.block 0 h.mx.pos (fun e=>?_));have:=h.sz
  rcases b _ e.symm with e | ⟨e,_⟩<;>omega
def vd.grown {w W d:World} {a:List (Int×ByteArray)} {row:Option Nat} (h:vd w a W) (b:W.grownBy d row) (c:uw w W row):vd w a d:=
 ⟨Abq b c h.low,h.bad,Ou b c (by omega) h.c0,Ou b c (by omega) h.c1,Ou b c (by omega) h.c2,A6 h.sz b.size⟩
def ou.below {w W c:World} {b:List (Int×ByteArray)} (h:ou w b W) (a:Below W.heap.size W c):ou w b c:=
 ⟨h.fl.below a,h.ok,h.low.trans (a.mono h.low.size),h.mx.low a,Ae a h.c0 (Ab h.c0),Ae a h.c1 (Ab h.c1),Ae a h.c2 (Ab h.c2),Ae a h.fx (Ab h.fx),A6 h.sz a.size⟩
def Jg.keeps {b d base g B:Nat} {W a:World} (h:Jg b d base g W a) (l:b<B) (m:d<B) (i:W.heap.size<=a.heap.size):KeepsFrom B W a:=
 ⟨i,fun k o n j f=>h.same k o j (by omega) (by omega) (.inr fun c fr e=>by rw [e] at f;simp [Obj.isCells] at f)⟩
def Jg.aq {a b base e k:Nat} {W c:World} (h:Jg a b base e W c) (f:k<W.heap.size) (g:k≠a) (i:k≠b) (j:k<base):c.heap[k]?=W.heap[k]?:=by
 obtain ⟨o,d⟩:∃ o,W.heap[k]?=some o:=⟨_,Pk f⟩;rw [d];exact h.same k o d i g (.inl j)
def Akg (n:Nat) (a:List (List UInt8)):∀ x,x∈G9 n a->∃ p,p∈a/\x.2=cn p:=by
 induction a generalizing n with
 | nil=>intro x b;simp [G9] at b
 | cons p a ih=>
  intro x b;simp only [G9] at b
  have c:x∈G9 (n+1) a->∃ q,q∈p :: a/\x.2=cn q:=fun h=>by
   obtain ⟨q,h1,d⟩:=ih _ x h;exact ⟨q,D1 _ h1,d⟩
  split at b
  .rcases Gu.1 b with rfl | h
   .exact ⟨p,E2 ..,rfl⟩
   .exact c h
  .exact c b
def Akh {s:ByteArray} {x:Int×ByteArray} (h:x∈Gv s):x.2.size<=s.size:=by
 obtain ⟨p,h1,a⟩:=Akg 0 _ x h;have:=Abj h1;rw [a,Nx,<- U3 s];exact this
structure Abr (v:ax):Prop where
 name:C6 v.name=true
 parts:∀ p,p∈v.parts->C6 p=true
 one:1<=v.parts.length
 cap:v.cap.right=true
def Aki {s:ByteArray} (h:C6 s=true):s.size<=16:=by
 simp only [C6,Eo,Ja] at h;exact h.1.2
def Abs {s:ByteArray} {v:ax} (h:Ip s=some v):Abr v:=by
 by_cases c:K1 s
 .rw [X4 c] at h;cases h;obtain ⟨h1,b,d,a⟩:=c;refine ⟨b,d,by simp;omega,?_⟩;show (J6 (gp s 1)).1.right=true;unfold J6 at a ⊢;split at a
  .next hl=>
   rw [Ad hl];unfold V4.told at a ⊢;split at a
   .next hr=>rw [Ad hr];exact hr
   .cases a
  .cases a
 .rw [Rl c] at h;cases h
def Akj {s:ByteArray} {v:ax} (h:Ip s=some v):v.parts.length<=s.size+1:=by
 by_cases c:K1 s
 .rw [X4 c] at h;cases h;have:=Abk s;simp;omega
 .rw [Rl c] at h;cases h
def Akk (xs:List ax) (l:List (Int×ByteArray)) (h:(Bo xs l).2.1=0):(Bo xs l).2.2=0:=by
 induction l generalizing xs with
 | nil=>rfl
 | cons x l ih=>
  obtain ⟨i,b⟩:=x;simp only [Bo] at h ⊢
  cases hn:Ip b with
  | none=>rw [hn] at h;simp at h
  | some v=>
   rw [hn] at h;simp only at h ⊢;by_cases c:Eb (xs.map ax.name) xs.length v.name v.parts=0
   .rw [Ad c] at h ⊢;exact ih _ h
   .rw [Ac c] at h;exact absurd h c
structure S3 (R:Nat) (W W':World) (p:Value) (e i:Int):Prop where
 size:W'.heap.size=W.heap.size
 c0:W'.heap[R]?=some (.cells #[p] 23 (0,0))
 c1:W'.heap[R+1]?=some (.cells #[.int .i64 e] 24 (0,0))
 c2:W'.heap[R+2]?=some (.cells #[.int .i64 i] 3 (0,0))
 other:∀ (k:Nat) (o:Obj),W.heap[k]?=some o->k≠R->k≠R+1->k≠R+2->W'.heap[k]?=some o
 low:∀ w,Below R w W->Below R w W'
 back:∀ (k:Nat),k≠R->k≠R+1->k≠R+2->W'.heap[k]?=W.heap[k]?
def Ia {W:World} {b o k:Nat} {v:Value} (h:k≠b):(W.setCell ⟨b,o,none⟩ v).heap[k]?=W.heap[k]?:=Cd _ _ _ _ h
def Yc {R:Nat} {W:World} {a b c:Value} (h0:W.heap[R]?=some (.cells #[a] 23 (0,0))) (h1:W.heap[R+1]?=some (.cells #[b] 24 (0,0))) (l:W.heap[R+2]?=some (.cells #[c] 3 (0,0))) (p:Value) (e i:Int) :
  S3 R W (((W.setCell ⟨R,0,none⟩ p).setCell ⟨R+1,0,none⟩ (.int .i64 e)).setCell ⟨R+2,0,none⟩ (.int .i64 i)) p e i:=by
 have d:∀ (k:Nat),k≠R->k≠R+1->k≠R+2->(((W.setCell ⟨R,0,none⟩ p).setCell ⟨R+1,0,none⟩ (.int .i64 e)).setCell ⟨R+2,0,none⟩ (.int .i64 i)).heap[k]?=W.heap[k]?:=fun k f g j=>
  (Ia j).trans ((Ia g).trans (Ia f))
 refine ⟨by simp [World.setCell],?_,?_,?_,fun k o m f g j=>(d k f g j).trans m,fun w h=>((h.setCell Ln _).setCell (Ea _) _).setCell (Nat.le_add_right _ _) _,d⟩
 .rw [Ia (by omega),Ia (by omega),Al h0];rfl
 .rw [Ia (by omega),Al (c:=#[b]) (T:=24) (fr:=(0,0)) ((Ia (by omega)).trans h1)];rfl
 .rw [Al (c:=#[c]) (T:=3) (fr:=(0,0)) ((Ia (by omega)).trans ((Ia (by omega)).trans l))];rfl
def ir.other {W l:World} {n p base:Nat} {vs:List ax} (h:ir W n p base vs) (q:W.heap.size<=l.heap.size) (d:∀ (k:Nat) (o:Obj),W.heap[k]?=some o->k=n\/k=p\/(base<=k/\o.isCells=true)->l.heap[k]?=some o):ir l n p base vs:=by
 obtain ⟨y,xs,h1,i,t⟩:=h.ex;refine ⟨y,xs,⟨d _ _ h1.head (.inl rfl),⟨h1.row.1,?_⟩,?_,fun x m=>?_⟩,i,t⟩
 .rcases h1.row.2 with h | ⟨g,cap,r,z,j,hh,s⟩
  .exact .inl h
  .exact .inr ⟨g,cap,r,z,j,d _ _ hh (.inr (.inr ⟨j,rfl⟩)),s⟩
 .obtain ⟨es,f,hb,s⟩:=h1.map;exact ⟨es,f,d _ _ hb (.inr (.inl rfl)),s⟩
 .have u:∀ b a,x.po=some ⟨b,a,none⟩->∃ c,W.heap[b]?=some (.cells c 9 (0,0))/\l.heap[b]?=some (.cells c 9 (0,0)):=fun b a e=>by
   obtain ⟨c,v⟩:=(h1.ok x m).2 b a e;exact ⟨c,v,d _ _ v (.inr (.inr ⟨t x m b a e,rfl⟩))⟩
  refine ⟨⟨U6 (h1.ok x m).1.parts q fun b a e _=>?_,(h1.ok x m).1.mh⟩,fun b a e=>?_⟩
  .obtain ⟨c,h1,i⟩:=u b a e;rw [h1,i]
  .obtain ⟨c,_,i⟩:=u b a e;exact ⟨c,i⟩
def Akl {w p l:World} {d:List (Int×ByteArray)} {i:Int} {q:ByteArray} {g:Value} {xs:List ar} {x:ar} (e:ou w d p) (r:xs.map ar.pl=(Bo [] d).1)
  (h3:∀ y,y∈xs->∀ b f,y.po=some ⟨b,f,none⟩->w.heap.size+7<=b) (hs:Ip q=some x.pl) (s:∀ b f,x.po=some ⟨b,f,none⟩->w.heap.size+7<=b)
  (v:Eb (xs.map ar.name) xs.length x.name x.parts=0) (hF:jf l (w.heap.size+4) (w.heap.size+3) (w.heap.size+7) g (xs++[x]))
  (m:Jg (w.heap.size+4) (w.heap.size+3) (w.heap.size+7) w.heap.size p l) (j:0<w.heap.size):ou w (d++[(i,q)]) l:=by
 have ac:=e.sz;have h4:=m.low.size;have t:xs.map ar.name=(Bo [] d).1.map ax.name:=by rw [<- r,Du];rfl
 have u:xs.length=(Bo [] d).1.length:=by rw [<- r,Ax]
 have z:Bo [] (d++[(i,q)])=((Bo [] d).1++[x.pl],0,0):=by rw [Yb _ _ _ e.ok,Ake hs];rw [t,u] at v;exact v
 have n:∀ {k:Nat} {o:Obj},p.heap[k]?=some o->k≠w.heap.size+4->k≠w.heap.size+3->k<w.heap.size+7->l.heap[k]?=some o:=fun hk a b c=>m.same _ _ hk b a (.inl c);refine ⟨⟨g,xs++[x],hF,by rw [z,Ds,r];rfl,fun y hy=>?_⟩,by rw [z],e.low.trans m.low,?_,n e.c0 (by omega) (by omega) (by omega),n e.c1 (by omega) (by omega) (by omega),n e.c2 (by omega) (by omega) (by omega),n e.fx (by omega) (by omega) (by omega),by omega⟩
 .rcases Dt.1 hy with h | h
  .exact h3 y h
  .have:y=x:=by simpa using h
   subst this;exact s
 .exact e.mx.jz (m.low.block 0 j)
def Akm {w e d:World} {g:List (Int×ByteArray)} (f:ou w g e)
  (h:Jg (w.heap.size+4) (w.heap.size+3) (w.heap.size+7) w.heap.size e d) :
  d.heap[w.heap.size]?=some (.cells #[.pointer none] 23 (0,0))/\d.heap[w.heap.size+1]?=some (.cells #[.int .i64 0] 24 (0,0))/\d.heap[w.heap.size+2]?=some (.cells #[.int .i64 0] 3 (0,0))/\Below w.heap.size w d/\e.heap.size<=d.heap.size:=by
 have i:∀ {k:Nat} {o:Obj},e.heap[k]?=some o->k≠w.heap.size+4->k≠w.heap.size+3->k<w.heap.size+7->d.heap[k]?=some o:=fun j a b c=>h.same _ _ j b a (.inl c);exact ⟨i f.c0 (by omega) (by omega) (by omega),i f.c1 (by omega) (by omega) (by omega),i f.c2 (by omega) (by omega) (by omega),f.low.trans h.low,h.low.size⟩
attribute [local go_sem] Oper.semAt_some
def nw (w:World) (s:ByteArray):World:=
 ((((((w.alloc (.cells #[.pointer none] 23 (0,0))).alloc (.cells #[.int .i64 0] 24 (0,0))).alloc (.cells #[.int .i64 0] 3 (0,0))).alloc (.map #[] 0)).alloc (.cells #[.slice none 0 0,.map (some (w.heap.size+3))] 101 (0,0))).alloc (.cells #[.pointer (some ⟨w.heap.size+4,0,none⟩)] 23 (0,0))).alloc (.cells #[.string s] 9 (0,0))
def Abt (w:World) (s:ByteArray):(nw w s).heap.size=w.heap.size+7:=by simp [nw]
def Abu (w:World) (s:ByteArray):Below w.heap.size w (nw w s):=
 (((((Bn.alloc (by simp) _).alloc (by simp;omega) _).alloc (by simp;omega) _).alloc (by simp;omega) _).alloc (by simp;omega) _).alloc (by simp;omega) _
def Akn (w:World) (s:ByteArray):(nw w s).heap[w.heap.size+6]?=some (.cells #[.string s] 9 (0,0)):=by
 unfold nw;exact A2 _ _ (by simp)
def Ako (w:World) (s:ByteArray) (b:Mx w):ou w [] (nw w s):=by
 refine ⟨⟨.slice none 0 0,[],⟨?_,⟨rfl,.inl ⟨rfl,rfl⟩⟩,?_,fun x a=>by cases a⟩,rfl,fun x a=>by cases a⟩,rfl,Abu w s,b.low (Abu w s),?_,?_,?_,?_,by rw [Abt];exact Nat.le_refl _⟩
 .unfold nw;exact Ai _ (Ai _ (A2 _ _ (by simp)))
 .have h0:=World.ownsMap_made ((((w.alloc (.cells #[.pointer none] 23 (0,0))).alloc (.cells #[.int .i64 0] 24 (0,0))).alloc (.cells #[.int .i64 0] 3 (0,0)))) Tryz.prog 9 (plainElem (H:=Unit) Tryz.prog 3);have h1:=((h0.alloc (.cells #[.slice none 0 0,.map (some (w.heap.size+3))] 101 (0,0))).alloc (.cells #[.pointer (some ⟨w.heap.size+4,0,none⟩)] 23 (0,0))).alloc (.cells #[.string s] 9 (0,0));simp only [Mt] at h1;exact h1
 .unfold nw;exact Ai _ (Ai _ (Ai _ (Ai _ (Ai _ (Ai _ (Af _ _))))))
 .unfold nw;exact Ai _ (Ai _ (Ai _ (Ai _ (Ai _ (A2 _ _ (by simp))))))
 .unfold nw;exact Ai _ (Ai _ (Ai _ (Ai _ (A2 _ _ (by simp)))))
 .unfold nw;exact Ai _ (A2 _ _ (by simp))
def Yd (s:ByteArray) (w:World) (e:Ending) (w':World):Prop:=
 ∃ p,e=.returned (.tuple #[.pointer p,.int .i64 (Mz s).2.1,.int .i64 (Mz s).2.2])/\Below w.heap.size w w' /\
  (((Mz s).2.1≠0/\p=none)\/((Mz s).2.1=0/\p=some ⟨w.heap.size+4,0,none⟩/\ir w' (w.heap.size+4) (w.heap.size+3) (w.heap.size+7) (Mz s).1))
def Akp (s:ByteArray) (w:World) (b:4096<s.size):Calls Tryz.prog 13 #[.string s] w (Yd s w):=by
 have a:Mz s=([],2,0):=Ad b;have c:decide ((4096:Int)<s.size)=true:=Az (by omega);replace a:=Hh a;go_enter Tryz.func13,Tryz.ntmps13;go_wp2;refine Ao (v:=.tuple #[.pointer none,.int .i64 2,.int .i64 0]) (by simp [results,Tryz.results13,go_sem]) rfl ?_;refine ⟨none,by rw [a.out],?_,.inl ⟨by rw [a.out];decide,rfl⟩⟩;exact (Bn.alloc (by simp) _).alloc (by simp;omega) _
def Akq (s:ByteArray) (w:World) (hm:Mx w) (hs:¬ 4096<s.size):Calls Tryz.prog 13 #[.string s] w (Yd s w):=by
 have hr:Mz s=Bo [] (Gv s):=Ac hs;have a0:=@run_makeMap Tryz.prog;have d1:decide ((4096:Int)<s.size)=false:=Aw (by omega);have aG:=hm;replace ⟨hr,aG,hm⟩:=H3 hr aG hm;refine (Or (n:=8)).1 ?_;refine callsIn_of_wp_marks Tryz.func13 rfl By ?_ rfl;simp only [Tryz.ntmps13,List.size_toArray,Jy,Pr,Nat.reduceAdd,Nat.reduceSub,Array.replicate_succ,Array.replicate_zero,List.push_toArray,List.append_toArray,Rf,Pp]
 gi_wp2_with fail
 refine ⟨By,(Or.2 (Aka s _)).mono ?_⟩;rintro e w1 ⟨rfl,a1⟩
 gi_wp2_with fail
 subst a1;clear a0;change Code.wpIn _ _ _ _ _ { tmps:=#[.string s,undef,.pointer (some ⟨w.heap.size,0,none⟩),.pointer (some ⟨w.heap.size+1,0,none⟩),.pointer (some ⟨w.heap.size+2,0,none⟩),.pointer (some ⟨w.heap.size+5,0,none⟩),undef,undef,undef,undef,.string s,.int .i64 s.size,.bool false,.map (some (w.heap.size+3)),.agg #[.slice none 0 0,.map (some (w.heap.size+3))],.pointer (some ⟨w.heap.size+4,0,none⟩),.string s,.func (.func 75) #[] #[.pointer (some ⟨w.heap.size+6,0,none⟩)],undef,undef,undef,undef,undef,undef,undef,undef,undef,undef,undef,undef,undef,undef,undef,undef,undef],defers:=[] } (nw w s);have hS:=Ako w s aG.out;have aQ:=Abt w s;have aH:=Akn w s;have aI:=hS.mx;have aP:=aG.out.pos;generalize nw w s=W1 at hS aQ aH aI ⊢;replace ⟨hS,aH,aI⟩:=H3 hS aH aI;refine Aj6 rfl (by omega) (gf:=75) (lb:=#[.pointer (some ⟨w.heap.size+6,0,none⟩)]) rfl By (enters_of Tryz.func75 (by kernel_rfl) rfl)
  (Aj9 7 (by omega) (w.heap.size+6) s W1 (by omega) aH.out aI.out (by omega)) (by omega) (by omega) (Below.refl _ _) (fun _=>rfl)
  (ou w) (fun c j W=>c=.ret/\vd w j W) ?hI ?hIx ?hIb ?hIxb hS.out
  (fun x=>{ tmps:=#[.string s,undef,.pointer (some ⟨w.heap.size,0,none⟩),.pointer (some ⟨w.heap.size+1,0,none⟩),.pointer (some ⟨w.heap.size+2,0,none⟩),.pointer (some ⟨w.heap.size+5,0,none⟩),.int .i64 x.1,.string x.2,undef,undef,.string s,.int .i64 s.size,.bool false,.map (some (w.heap.size+3)),.agg #[.slice none 0 0,.map (some (w.heap.size+3))],.pointer (some ⟨w.heap.size+4,0,none⟩),.string s,.func (.func 75) #[] #[.pointer (some ⟨w.heap.size+6,0,none⟩)],.int .i64 x.1,.string x.2,undef,undef,undef,undef,undef,undef,undef,undef,undef,undef,undef,undef,undef,undef,undef],defers:=[] }) ?assign ?body ?done ?stop
 case hI=>
  intro j A B row h hg aR;exact h.grown hg fun r e=>.inr (by rw [<- aQ];exact aR r e)
 case hIx=>
  rintro c j A B row ⟨rfl,h⟩ hg aR;exact ⟨rfl,h.grown hg fun r e=>.inr (by rw [<- aQ];exact aR r e)⟩
 case hIb=>
  intro j A B h hg;exact h.grown hg fun r e=>.inl (by cases e;rfl)
 case hIxb=>
  rintro c j A B ⟨rfl,h⟩ hg;exact ⟨rfl,h.grown hg fun r e=>.inl (by cases e;rfl)⟩
 case assign=>
  intro l x W K t
  gi_wp2
  exact t
 case body=>
  rintro l j ⟨i,ln⟩ W hI u;have aA:(i,ln)∈Gv s:=u.subset (by simp);have aJ:=Akh aA;have ad:=Aju ln W hI.mx (by have:ln.size<=s.size:=aJ;omega);replace ⟨hI,u,aA,aJ,ad⟩:=H5 hI u aA aJ ad
  gi_wp2_with fail
  refine ⟨By,((Or.2 ad.out).inRound l).mono ?_⟩;rintro e w2 ⟨x,r,rfl,aB,f,an,aS⟩;have d:=hI.out.below f;have c0:=Aa d.c0 0;have c1:=Aa d.c1 0;have c2:=Aa d.c2 0;have c5:=Aa d.fx 0;have f0:=Ah d.c0 0;have f1:=Ah d.c1 0;have f2:=Ah d.c2 0;have l0:=Ab d.c0;have l1:=Ab d.c1;have l2:=Ab d.c2;have l5:=Ab d.fx;simp at c0 c1 c2 c5;rcases aS with ⟨al,rfl,rfl⟩ | ⟨q,rfl⟩
  .have a:=Yc d.c0 d.c1 d.c2 (.pointer none) 50 i;have v:Bo [] (j++[(i,ln)])=((Bo [] j).1,50,i):=(by rw [Yb _ _ _ hI.out.ok,Akd al]);have a8:=d.sz;replace ⟨d,aB,f,an,al,a,v⟩:=H7 d aB f an al a v
   gi_wp2
   refine ⟨?_,rfl,?_⟩
   .refine ⟨?_,fun k o hk hh ho=>Ai _ (a.out.other k o (Ae f.out hh (Ab hh)) (by omega) (by omega) (by omega))⟩;have:=a.out.size;have:=f.out.size;rw [Mt];omega
   .refine ⟨(a.out.low _ d.out.low).alloc (a.out.low _ d.out.low).size _,by rw [v.out];show (50:Int)≠0;decide,Ai _ a.out.c0,by rw [v.out];exact Ai _ a.out.c1,by rw [v.out];exact Ai _ a.out.c2,?_⟩;have:=a.out.size;rw [Mt];omega
  .have aT:=Abs q;have aU:=Akj q;have aV:=Aki aT.name;obtain ⟨W3,aK⟩:=Ex (w2.alloc (.cells x.cells 69 (0,0)));have g:Below w2.heap.size w2 W3:=(by rw [aK];exact Bn);have ao:=d.below g;have am:=aB.low g
   have aC:Rm W3 x:=fun b aW e=>by
    obtain ⟨_,c,hc⟩:=an b aW e;exact ⟨c,Ae g hc (Ab hc)⟩
   obtain ⟨nv,xs,h1,h2,h3⟩:=ao.fl.ex;have aD:=fun b aW e=>A6 hI.out.sz (an b aW e).1;have aX:x.pn<=4294967296:=(by have e1:=am.parts.len;have e2:x.parts.length<=ln.size+1:=aU;have:ln.size<=s.size:=aJ.out;omega);have z:=Aj5 W3 (w.heap.size+4) (w.heap.size+3) (w.heap.size+7) w.heap.size nv xs x h1 am aC (by have:maxLen=9223372036854775807:=rfl;have:x.name.size<=16:=aV;omega) aX (by omega) (by omega) (by omega) ao.sz;obtain ⟨E,hE⟩:=Ex (Eb (xs.map ar.name) xs.length x.name x.parts);rw [<- hE] at z;have aL:xs.map ar.name=(Bo [] j).1.map ax.name:=(by rw [<- h2,Du];rfl);have aM:xs.length=(Bo [] j).1.length:=(by rw [<- h2,Ax]);obtain ⟨nm,⟨ca,cb,cc,cd⟩,po,pn,pc,ps⟩:=x;rw [aK] at z;replace ⟨d,aB,f,an,q,aT,aU,aV⟩:=H8 d aB f an q aT aU aV;replace ⟨g,ao,am,aC,h1,h2,h3,aD⟩:=H8 g ao am aC h1 h2 h3 aD;replace ⟨aX,z,hE,aL,aM⟩:=H5 aX z hE aL aM;have aZ:=Hh aK;clear aK
   gi_wp2_with fail
   refine ⟨By,((Or.2 z.out).inRound l).mono ?_⟩;rintro e w4 ⟨a9,rfl,ap,t⟩;rw [<- aZ.out] at t;have a2:=Akm ao.out t;obtain ⟨q0,q1,q2,y,p⟩:=a2;clear c0 c1 c2 c5 f0 f1 f2 l0 l1 l2 l5;by_cases av:E=0
   .subst av;rw [Ad rfl] at ap;have aY:ou w (j++[(i,ln)]) w4:=Akl ao.out h2.out h3.out q.out aD.out hE.out.symm ap t aP;replace ⟨ap,t,q0,q1,q2,y,p,aY⟩:=H8 ap t q0 q1 q2 y p aY
    gi_wp2
    have aE:=A6 f.out.size g.out.size;have aF:=fun k hk=>(g.out.block k (Br hk f.out.size)).trans (f.out.block k hk);have a3:=hI.out.sz;refine ⟨⟨A6 aE p.out,fun k o hk hh ho=>?_⟩,⟨?_,?_⟩,aY.out⟩
    .exact (t.out.keeps (B:=W1.heap.size) (by omega) (by omega) p.out).same k o hk ((aF k (Ab hh)).trans hh) ho
    .exact (t.out.aq (by omega) (by omega) (by omega) (by omega)).trans (aF _ (by omega))
    .exact (t.out.low.block 0 aP).trans (aF _ (by omega))
   .have v:Bo [] (j++[(i,ln)])=((Bo [] j).1,E,i):=by
     rw [Yb _ _ _ hI.out.ok,Akf q.out]
     .rw [<- aL.out,<- aM.out];rw [hE.out];rfl
     .rw [<- aL.out,<- aM.out];exact fun c=>av (hE.out.trans c)
    have a:=Yc q0 q1 q2 (.pointer none) E i;have c0:=Aa q0 0;have c1:=Aa q1 0;have c2:=Aa q2 0;have f0:=Ah q0 0;have f1:=Ah q1 0;have f2:=Ah q2 0;simp at c0 c1 c2;have dE:(E != 0)=true:=(by simpa using av);replace ⟨ap,t,q0,q1,q2,y,p,av⟩:=H8 ap t q0 q1 q2 y p av;replace ⟨v,a⟩:=H2 v a
    gi_wp2
    have aE:=A6 f.out.size g.out.size;have aF:=fun k hk=>(g.out.block k (Br hk f.out.size)).trans (f.out.block k hk);have a3:=hI.out.sz;refine ⟨⟨by rw [a.out.size];exact A6 aE p.out,fun k o hk hh ho=>?_⟩,rfl,a.out.low _ y.out,by rw [v.out];exact av.out,a.out.c0,by rw [v.out];exact a.out.c1,by rw [v.out];exact a.out.c2,by rw [a.out.size];have:=p.out;omega⟩;exact a.out.other k o ((t.out.keeps (B:=W1.heap.size) (by omega) (by omega) p.out).same k o hk ((aF k (Ab hh)).trans hh) ho) (by omega) (by omega) (by omega)
 case done=>
  intro D W hD hI t;have c0:=Aa hI.c0 0;have c1:=Aa hI.c1 0;have c2:=Aa hI.c2 0;have c5:=Aa hI.fx 0;have f0:=Ah hI.c0 0;have f1:=Ah hI.c1 0;have f2:=Ah hI.c2 0;simp at c0 c1 c2 c5;have a:=Yc hI.c0 hI.c1 hI.c2 (.pointer (some ⟨w.heap.size+4,0,none⟩)) 0 0;have hz:=Akk [] (Gv s) hI.ok;have a4:=Ab t;have aN:=a.other D _ t (by omega) (by omega) (by omega);replace ⟨hI,t,a,hz,aN⟩:=H5 hI t a hz aN
  gi_wp2
  refine ⟨by simp,.inl ⟨_,_,rfl,run_takeDeferred aN.out,?_⟩⟩;obtain ⟨W5,a5⟩:=Ex ((((W.setCell ⟨w.heap.size,0,none⟩ (.pointer (some ⟨w.heap.size+4,0,none⟩))).setCell ⟨w.heap.size+1,0,none⟩ (.int .i64 0)).setCell ⟨w.heap.size+2,0,none⟩ (.int .i64 0)));have ac:=a.out;have a6:=aN.out;rw [<- a5] at ac a6 ⊢;have g0:=Aa ((World.putObj_heap_other (o:=.deferred none) (show w.heap.size≠D by omega)).trans ac.c0) 0;have g1:=Aa ((World.putObj_heap_other (o:=.deferred none) (show w.heap.size+1≠D by omega)).trans ac.c1) 0;have g2:=Aa ((World.putObj_heap_other (o:=.deferred none) (show w.heap.size+2≠D by omega)).trans ac.c2) 0;simp at g0 g1 g2;refine ⟨.tuple #[.pointer (some ⟨w.heap.size+4,0,none⟩),.int .i64 0,.int .i64 0],by simp [results,Tryz.results13,go_sem,g0,g1,g2],some ⟨w.heap.size+4,0,none⟩,by rw [hr.out,hI.out.ok,hz.out],?_,.inr ⟨by rw [hr.out];exact hI.out.ok,rfl,?_⟩⟩
  .exact (ac.low _ hI.out.low).grown (grownBy_putObj' _ D _) (ac.low _ hI.out.low).size (fun k e=>by cases e;omega)
  .rw [hr.out];refine hI.out.fl.other (by have:=ac.size;simp [World.putObj];omega) fun k o hk hc=>?_
   have a7:k≠D:=fun e=>by
    subst e;rw [t.out] at hk;cases hk;rcases hc with e | e | ⟨_,e⟩
    .omega
    .omega
    .simp [Obj.isCells] at e
   exact (World.putObj_heap_other a7).trans (ac.other k o hk (by omega) (by omega) (by omega))
 case stop=>
  rintro D c j ⟨i,ln⟩ W hD u ⟨rfl,hX⟩ t;have a4:=Ab t;have aO:Bo [] (Gv s)=Bo [] (j++[(i,ln)]):=by obtain ⟨m,hm⟩:=u;rw [<- hm,Akc _ _ _ hX.bad]
  replace ⟨hX,t,aO,u⟩:=H4 hX t aO u
  gi_wp2
  refine ⟨by simp,.inl ⟨_,_,rfl,run_takeDeferred t.out,?_⟩⟩;have g0:=Aa ((World.putObj_heap_other (o:=.deferred none) (show w.heap.size≠D by omega)).trans hX.out.c0) 0;have g1:=Aa ((World.putObj_heap_other (o:=.deferred none) (show w.heap.size+1≠D by omega)).trans hX.out.c1) 0;have g2:=Aa ((World.putObj_heap_other (o:=.deferred none) (show w.heap.size+2≠D by omega)).trans hX.out.c2) 0;simp at g0 g1 g2;refine ⟨.tuple #[.pointer none,.int .i64 (Bo [] (j++[(i,ln)])).2.1,.int .i64 (Bo [] (j++[(i,ln)])).2.2],by simp [results,Tryz.results13,go_sem,g0,g1,g2],none,by rw [hr.out,aO.out],?_,.inl ⟨by rw [hr.out,aO.out];exact hX.out.bad,rfl⟩⟩;exact hX.out.low.grown (grownBy_putObj' _ D _) hX.out.low.size (fun k e=>by cases e;omega)
def Ye (s:ByteArray) (w:World) (b:Mx w):Calls Tryz.prog 13 #[.string s] w (Yd s w):=by
 by_cases a:4096<s.size
 .exact Akp s w a
 .exact Akq s w b a
def K3:Nat->List ax->ByteArray->List Int
 | _,[],_=>[]
 | k,v :: vs,p=>if Jf v.parts p=true then (k:Int) :: K3 (k+1) vs p else K3 (k+1) vs p
def Ce (vs:List ax) (p:ByteArray):List Int:=K3 0 vs p
def Akr (a b:List ax) (p:ByteArray) (k:Nat):K3 k (a++b) p=K3 k a p++K3 (k+a.length) b p:=by
 induction a generalizing k with
 | nil=>simp [K3]
 | cons v a ih=>
  simp only [Pp,K3,Jy];rw [ih,show k+1+a.length=k+(a.length+1) by omega]
  split<;>simp
def J7 {α:Type} {l:List α} {k:Nat} {x:α} (h:l[k]?=some x):l.take (k+1)=l.take k++[x]:=by
 rw [Ra,h];rfl
def Abv {vs:List ax} {k:Nat} {v:ax} (p:ByteArray) (h:vs[k]?=some v):Ce (vs.take (k+1)) p=Ce (vs.take k) p++(if Jf v.parts p=true then [(k:Int)] else []):=by
 have a:=(Aq.1 h).1;unfold Ce;rw [J7 h,Akr,Ff,Mu (by omega),D2];simp only [K3]
def Aks {vs:List ax} {k:Nat} {v:ax} {p:ByteArray} (h:vs[k]?=some v) (a:Jf v.parts p=true):Ce (vs.take (k+1)) p=Ce (vs.take k) p++[(k:Int)]:=by
 rw [Abv p h,Ad a]
def Akt {vs:List ax} {k:Nat} {v:ax} {p:ByteArray} (h:vs[k]?=some v) (a:Jf v.parts p=false):Ce (vs.take (k+1)) p=Ce (vs.take k) p:=by
 rw [Abv p h,Ac (by rw [a];simp),Ps]
def Abw (vs:List ax) (p:ByteArray) (k:Nat):(K3 k vs p).length<=vs.length:=by
 induction vs generalizing k with
 | nil=>simp [K3]
 | cons v vs ih=>
  have:=ih (k+1);simp only [K3]
  split<;>simp<;>omega
def Aku (vs:List ax) (p:ByteArray):(Ce vs p).length<=vs.length:=Abw vs p 0
def Vc (a b:V4):V4:=⟨a.a+b.a,a.b+b.b,a.c+b.c,a.d+b.d⟩
def Ny (v:ax) (p:ByteArray):Bool:=p.toList.isEmpty || Jf v.parts p
def Dv (vs:List ax) (p:ByteArray):V4:=vs.foldl (fun a v=>if Ny v p=true then Vc a v.cap else a) V4.zero
structure Vd (v:V4):Prop where
 a0:0<=v.a
 a1:v.a<=1073741824
 b0:0<=v.b
 b1:v.b<=1073741824
 c0:0<=v.c
 c1:v.c<=1073741824
 d0:0<=v.d
 d1:v.d<=1073741824
structure Akv (v:V4) (n:Nat):Prop where
 a0:0<=v.a
 a1:v.a<=1073741824*n
 b0:0<=v.b
 b1:v.b<=1073741824*n
 c0:0<=v.c
 c1:v.c<=1073741824*n
 d0:0<=v.d
 d1:v.d<=1073741824*n
def Akx (l:List ByteArray) (x:ByteArray):Lib.containsS l x=Jf l x:=by
 rw [Pt,Lib.containsS_iff,Tc]
def Abx (w:World) (po:Option Addr) (pn pc:Nat) (a:List ByteArray) (s:ByteArray) (h:Fx w po pn a):Calls Tryz.prog 209 #[.slice po pn pc,.string s] w fun e w'=>e=.returned (.bool (Jf a s))/\w'=w:=by
 have g:=h.len;have i:=h.max;by_cases h0:pn=0
 .subst h0;have:a=[]:=Fw.1 g;subst this;exact Tryz.slices_Contains_string_empty po pc s w
 .obtain ⟨b,c,rfl,k,_⟩:=h.cell 0 (a[0]'(by omega)) (by simp);refine (Tryz.slices_Contains_string b c pn pc a s w (by omega) i fun j d=>?_).mono ?_
  .obtain ⟨m,f,e,_,l⟩:=h.cell j (a[j]'d) (by simp [d]);cases e;rw [l];simp [List.getD,d]
  .rintro e w' ⟨rfl,rfl⟩;rw [Dn (by omega),Akx];exact ⟨rfl,rfl⟩
def Bs (xs:List Int):List Value:=xs.map fun n=>.int .i64 n
structure Ak (w:World) (B:Nat) (v:Value) (xs:List Int):Prop where
 row:w.ownsRow B 3 1 v xs.length (Bs xs)
def Aby (vs:List ax) (p:ByteArray) (w:World) (e:Ending) (w':World):Prop:=∃ v,e=.returned v/\Ak w' w.heap.size v (Ce vs p)/\Below w.heap.size w w'
def M0:(Tryz.prog.info? 3).map (fun i=>(i.zero,i.size,i.bytes))=some (some (.int .i64 0),1,8):=by kernel_rfl
def Yg (w:World) (n:Int):∀ j u,([.int .i64 n]:List Value)[j]?=some u->(w.alloc (.cells #[.int .i64 n] 3 (0,0))).cell? ((⟨w.heap.size,0,none⟩:Addr).add j)=some u:=by
 intro j u a
 match j,a with
 | 0,a=>
  have:=Aa (Af w (.cells #[.int .i64 n] 3 (0,0))) 0;simp at a;subst a;exact this
 | j+1,a=>simp at a
def Yh {xs:List ar} {k:Nat} {x:ar} (h:xs[k]?=some x):(xs.map ar.pl)[k]?=some x.pl:=by rw [Bx,h];rfl
def Aky (w:World) (fb mb base:Nat) (nv:Value) (xs:List ar) (p:ByteArray) (hF:jf w fb mb base nv xs) (al:xs.length<=4096):Calls Tryz.prog 154 #[.pointer (some ⟨fb,0,none⟩),.string p] w (Aby (xs.map ar.pl) p w):=by
 obtain ⟨i3,ap,av,am,an⟩:=C0 M0;obtain ⟨n,s⟩:=Ex (xs.length);have q:=Yf w fb mb base nv xs hF;rw [<- s] at q al;replace ⟨hF,s,q⟩:=H3 hF s q;go_enter Tryz.func154,Tryz.ntmps154;go_wp2_with fail;refine q.out.mono ?_;rintro e w1 ⟨rfl,rfl⟩;go_wp2;go_loopw [5,9] (fun ov i wr=>∃ k:Nat,i=.int .i64 k/\k<=n/\Hid (Ak wr w1.heap.size ov (Ce ((xs.map ar.pl).take k) p))/\Hid (Below w1.heap.size w1 wr)) (fun _ i _=>n-(intOf i).toNat)
 case atStart=>exact ⟨0,rfl,Av _,⟨rfl,.inl ⟨rfl,rfl⟩⟩,Below.refl _ _⟩
 case round=>
  obtain ⟨k,rfl,hk,hO,hB⟩:=hrel;by_cases hc:k<n
  .have aA:(k:Int)<n:=(by omega);have aB:(0:Int)<=(k:Int):=(by omega);have m:=hF.out.below hB.out;obtain ⟨g,cap,rfl⟩:=Joins.ownsRow_form m.row (by have:=s.out;omega);obtain ⟨x,hx⟩:∃ x,xs[k]?=some x:=⟨_,Am (by have:=s.out;omega)⟩;obtain ⟨g',e1,_,_,c⟩:=m.cell hx;have e2:g=g':=(by simpa [Value.ownBlock] using e1);subst e2;have c5:wr.cell? ⟨g,k*6+5,none⟩=some (.slice x.po x.pn x.pc):=c 5 (by omega);have f0:=Aa m.head 0;simp at f0;rw [<- s.out] at f0;have o:=Abx wr x.po x.pn x.pc x.parts p (m.ok x (Aj hx)).1.parts;obtain ⟨b,hb⟩:=Ex (Jf x.parts p);rw [<- hb] at o;have r:=Yh hx;replace ⟨m,hx,o,hb,r,c,e1⟩:=H7 m hx o hb r c e1
   cases b with
   | false=>
    have t:Ak wr w1.heap.size u5 (Ce ((xs.map ar.pl).take (k+1)) p):=(by rw [Akt r.out hb.out.symm];exact hO.out);replace t:=Hh t;go_wp2_with fail
    (with_reducible refine o.out.mono ?_)
    rintro e wr ⟨rfl,rfl⟩;go_wp2;go_roundw
    case rel=>exact ⟨k+1,by go_num,by omega,t.out,hB.out⟩
    case measure=>simp [intOf];omega
   | true=>
    obtain ⟨L,hL⟩:=Ex ((Ce ((xs.map ar.pl).take k) p).length);have aC:L<=k:=(by rw [hL];refine A6 (Aku _ _) ?_;rw [Ff];omega);have d:(wr.alloc (.cells #[.int .i64 (k:Int)] 3 (0,0))).ownsRow w1.heap.size 3 1 u5 L (Bs (Ce ((xs.map ar.pl).take k) p)):=(by rw [hL];exact hO.out.row.alloc (.cells #[.int .i64 (k:Int)] 3 (0,0)));have f:=Yg wr (k:Int);have h:∀ u∈([.int .i64 (k:Int)]:List Value),u.oneCell'=true:=(by simp [Value.oneCell']);have v:=Je (n:=L) (by omega);have y:(L+1)*8<=140737488355328:=(by omega);have l:w1.heap.size<=(wr.alloc (.cells #[.int .i64 (k:Int)] 3 (0,0))).heap.size:=(by have:=hB.out.size;simp;omega);replace ⟨hL,d,f,h,v,y,l⟩:=H7 hL d f h v y l;go_wp2_with fail
    (with_reducible refine o.out.mono ?_)
    rintro e wr ⟨rfl,rfl⟩;go_wp2_with (at_builtin;refine Rb _ rfl _ _ 31 rfl w1.heap.size 3 i3 _ 1 8 Nm ap av am an rfl (by decide) _ L _ rfl d.out ⟨wr.heap.size,0,none⟩ 1 1 [.int .i64 (k:Int)] rfl rfl f.out h.out v.out y.out l.out ?_;intro v1 w7 a j _;obtain ⟨g7,ao,rfl⟩:=Joins.ownsRow_form a (by omega);replace ⟨a,j⟩:=H2 a j);have z:Ak w7 w1.heap.size (.slice (some ⟨g7,0,none⟩) (L+1) ao) (Ce ((xs.map ar.pl).take (k+1)) p):=(by rw [Aks r.out hb.out.symm];refine ⟨?_⟩;rw [De,<- hL.out];simpa [Bs] using a.out);have ac:=(hB.out.alloc hB.out.size _).grown j.out l.out (fun k hk=>(hO.out.row.lt k hk).1);replace ⟨z,ac⟩:=H2 z ac;go_roundw
    case rel=>exact ⟨k+1,by go_num,by omega,z.out,ac.out⟩
    case measure=>simp [intOf];omega
  .have aA:¬ (k:Int)<n:=(by omega);have ad:(xs.map ar.pl).take k=xs.map ar.pl:=Dn (by rw [Ax];have:=s.out;omega);replace ad:=Hh ad;go_wp2;go_ret;exact ⟨u5,rfl,by have:=hO.out;rw [ad.out] at this;exact this,hB.out⟩
structure jd (w:World) (v:V4) (W:World):Prop where
 low:Below w.heap.size w W
 r0:W.heap[w.heap.size]?=some (.cells V4.zero.cells 30 (0,0))
 r1:W.heap[w.heap.size+1]?=some (.cells v.cells 30 (0,0))
def jd.set {w W:World} {v a:V4} (h:jd w v W) (o:Nat) (x:Value) (e:v.cells.setIfInBounds o x=a.cells):jd w a (W.setCell ⟨w.heap.size+1,o,none⟩ x):=
 ⟨h.low.setCell (Ea _) _,Dh (Nat.ne_of_lt (Nat.lt_succ_self _)) _ h.r0,by rw [Al h.r1,e]⟩
def K4 (u c:V4) (k:Nat):V4:=⟨if 0<k then u.a+c.a else u.a,if 1<k then u.b+c.b else u.b,if 2<k then u.c+c.c else u.c,if 3<k then u.d+c.d else u.d⟩
def Yi (vs:List ax) (p:ByteArray) (w:World) (e:Ending) (w':World):Prop:=e=.returned (Dv vs p).val/\Below w.heap.size w w'
end Go.Proofs.YtimlcnhcjndijaaGreatDoor
