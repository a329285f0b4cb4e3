/- Parts Tv, Tw, Mv, Cfn, Lam, Tj, Dmw, End, Set, Ovr, Hd, App, Ord. Plain theorems: no condition. -/
import Derived.Test.YtimlcnhcjndijaaGreatDoorQ14
import Derived.Test.YtimlcnhcjndijaaGreatDoorQ16
import Derived.Test.YtimlcnhcjndijaaGreatDoorQ17
set_option linter.all false
set_option maxRecDepth 100000
set_option maxHeartbeats 3200000
namespace Go.Proofs.YtimlcnhcjndijaaGreatDoor
open Go.RowKit Go.Maps
structure Mod (S:Nat->Prop) (w w':World):Prop where
 os:w'.os=w.os
 tape:w'.tape=w.tape
 output:w'.output=w.output
 size:w.heap.size<=w'.heap.size
 block:∀ k,k<w.heap.size->¬ S k->w'.heap[k]?=w.heap[k]?
def Mod.refl (S:Nat->Prop) (w:World):Mod S w w:=⟨rfl,rfl,rfl,Nat.le_refl _,fun _ _ _=>rfl⟩
def Mod.af {S:Nat->Prop} {w w':World} (h:Below w.heap.size w w'):Mod S w w':=⟨h.os,h.tape,h.output,h.size,fun k a _=>h.block k a⟩
def Mod.mono {S S':Nat->Prop} {w w':World} (h:Mod S w w') (b:∀ k,k<w.heap.size->S k->S' k):Mod S' w w':=⟨h.os,h.tape,h.output,h.size,fun k a d=>h.block k a fun c=>d (b k a c)⟩
def Mod.then {S S':Nat->Prop} {w w1 d:World} (h:Mod S w w1) (a:Mod S' w1 d) (f:∀ k,k<w.heap.size->S' k->S k):Mod S w d:=
 ⟨a.os.trans h.os,a.tape.trans h.tape,a.output.trans h.output,A6 h.size a.size,fun k b e=>
  (a.block k (Br b h.size) fun c=>e (f k b c)).trans (h.block k b e)⟩
def Mod.trans {S:Nat->Prop} {w w1 a:World} (h:Mod S w w1) (b:Mod S w1 a):Mod S w a:=h.then b fun _ _ c=>c
def Mod.low {S:Nat->Prop} {w w1 a:World} (h:Mod S w w1) (b:Below w1.heap.size w1 a):Mod S w a:=h.trans (Mod.af b)
def Mod.setCell {S:Nat->Prop} (w:World) (b o:Nat) (v:Value) (a:S b):Mod S w (w.setCell ⟨b,o,none⟩ v):=
 ⟨rfl,rfl,rfl,by simp [World.setCell],fun k _ c=>Cd _ _ _ _ (fun e=>c (e▸a))⟩
def Mod.set {S:Nat->Prop} {w w1:World} (h:Mod S w w1) (b o:Nat) (v:Value) (a:S b):Mod S w (w1.setCell ⟨b,o,none⟩ v):=h.trans (Mod.setCell w1 b o v a)
def Mod.grown {S:Nat->Prop} {w w':World} {row:Option Nat} (h:w.grownBy w' row) (a:∀ k,row=some k->S k):Mod S w w':=
 ⟨h.os,h.tape,h.output,h.size,fun k b c=>h.block k b fun e=>c (a k e.symm)⟩
def Mod.alloc (S:Nat->Prop) (w:World) (o:Obj):Mod S w (w.alloc o):=Mod.af Bn
def Mod.drew {S:Nat->Prop} {w w':World} (h:Mod S w w'):Mod S w w'.drew:=⟨h.os,h.tape,h.output,h.size,h.block⟩
def Mod.below {S:Nat->Prop} {B:Nat} {w w':World} (h:Mod S w w') (b:B<=w.heap.size) (a:∀ k,S k->B<=k):Below B w w':=
 ⟨h.os,h.tape,h.output,h.size,fun k d=>h.block k (by omega) fun c=>by have:=a k c;omega⟩
def Mod.aq {S:Nat->Prop} {k:Nat} {w w':World} {o:Obj} (h:Mod S w w') (a:w.heap[k]?=some o) (b:¬ S k):w'.heap[k]?=some o:=(h.block k (Ab a) b).trans a
def Bb {S:Nat->Prop} {w w':World} {B size n:Nat} {T:TypeId} {v:Value} {xs:List Value} (h:w.ownsRow B T size v n xs) (c:Mod S w w') (d:∀ k,v.ownBlock=some k->¬ S k):w'.ownsRow B T size v n xs:=by
 refine ⟨h.1,?_⟩;rcases h.2 with e | ⟨g,cap,a,rfl,f,b,rest⟩
 .exact .inl e
 .exact .inr ⟨g,cap,a,rfl,f,c.aq b (d g rfl),rest⟩
def C1 {w:World} {B size n:Nat} {T:TypeId} {v:Value} {xs:List Value} (h:w.ownsRow B T size v n xs) {g:Nat} (b:v.ownBlock=some g):∃ a,w.heap[g]?=some (.cells a T (0,0))/\B<=g:=by
 rcases h.2 with ⟨rfl,_⟩ | ⟨e,cap,a,rfl,d,c,_⟩
 .simp [Value.ownBlock] at b
 .simp [Value.ownBlock] at b;subst b;exact ⟨a,c,d⟩
def B2 {w:World} {B size n:Nat} {T f:TypeId} {v:Value} {xs:List Value} (h:w.ownsRow B T size v n xs) {b:Nat} {c:Array Value} {fr:Nat×Nat} (a:w.heap[b]?=some (.cells c f fr)) (d:T≠f):v.ownBlock≠some b:=fun e=>by
 obtain ⟨g,i,_⟩:=C1 h e;rw [i] at a;injection a with a;injection a with _ a;exact d a
def Alh {w:World} {B size n:Nat} {T:TypeId} {v:Value} {xs:List Value} (h:w.ownsRow B T size v n xs) {b:Nat} {c:Array MapEntry} {d:Nat} (a:w.heap[b]?=some (.map c d)):v.ownBlock≠some b:=fun e=>by
 obtain ⟨f,g,_⟩:=C1 h e;rw [g] at a;injection a with a;cases a
structure D5 (w:World) (S:Nat->Prop) (so:Option Addr) (n:Nat) (l:List Int):Prop where
 row:Ap w so n l
 off:0<n->∀ b o,so=some ⟨b,o,none⟩->¬ S b
def D5.mod {S S':Nat->Prop} {w w':World} {so:Option Addr} {n:Nat} {l:List Int} (h:D5 w S so n l) (f:Mod S w w') (j:∀ k,k<w.heap.size->S' k->S k):D5 w' S' so n l:=
 ⟨⟨h.row.len,h.row.max,fun i x d=>by
  obtain ⟨b,c,e,a,m⟩:=h.row.cell i x d;have q:=(Aq.1 d).1;refine ⟨b,c,e,Br a f.size,?_⟩;rw [<- m]
  simp only [World.cell?,f.block b a (h.off (by have:=h.row.len;omega) b c e)]⟩,fun h0 b o e p=>by
  obtain ⟨x,d⟩:=h.row.get (i:=0) h0;obtain ⟨r,g,e',a,_⟩:=h.row.cell 0 x d;rw [e] at e';cases e'
  exact h.off h0 b o e (j b a p)⟩
def Acd (w:World) (S:Nat->Prop):D5 w S none 0 []:=⟨Tg w,fun h=>absurd h (by omega)⟩
abbrev Fk (p:Int×Int):Array Value:=#[.int .i64 p.1,.int .i64 p.2]
structure ai where
 pl:Jb
 so:Option Addr
 sn:Nat
 sc:Nat
 go:Option Addr
 gn:Nat
 gc:Nat
 po:Option Addr
 pn:Nat
 pc:Nat
abbrev ai.cells (x:ai):Array Value:=#[.int .i64 x.pl.id,.string x.pl.sp.user,.string x.pl.sp.part,.int .i64 x.pl.sp.nodes,.int .i64 x.pl.sp.dn.a,.int .i64 x.pl.sp.dn.b,.int .i64 x.pl.sp.dn.c,.int .i64 x.pl.sp.dn.d,.int .i64 x.pl.sp.wall,.int .i64 x.pl.sp.prio,.int .i64 x.pl.sp.array,.int .i64 x.pl.sp.ae,.bool x.pl.sp.held,.slice x.so x.sn x.sc,.int .i64 x.pl.lf.st,.int .i64 x.pl.lf.bm,.int .i64 x.pl.lf.left,.bool x.pl.lf.wall,.bool x.pl.lf.stop,.int .i64 x.pl.start,.slice x.go x.gn x.gc,.slice x.po x.pn x.pc]
abbrev ai.val (x:ai):Value:=.agg #[.int .i64 x.pl.id,.string x.pl.sp.user,.string x.pl.sp.part,.int .i64 x.pl.sp.nodes,.int .i64 x.pl.sp.dn.a,.int .i64 x.pl.sp.dn.b,.int .i64 x.pl.sp.dn.c,.int .i64 x.pl.sp.dn.d,.int .i64 x.pl.sp.wall,.int .i64 x.pl.sp.prio,.int .i64 x.pl.sp.array,.int .i64 x.pl.sp.ae,.bool x.pl.sp.held,.slice x.so x.sn x.sc,.int .i64 x.pl.lf.st,.int .i64 x.pl.lf.bm,.int .i64 x.pl.lf.left,.bool x.pl.lf.wall,.bool x.pl.lf.stop,.int .i64 x.pl.start,.slice x.go x.gn x.gc,.slice x.po x.pn x.pc]
def ai.pb (x:ai):Option Nat:=(Value.slice x.po x.pn x.pc).ownBlock
def A9 (w:World) (b:Nat) (x:ai):Prop:=w.heap[b]?=some (.cells x.cells 46 (0,0))
def Bu (w:World) (x:ai):Prop:=w.ownsRow 0 65 2 (.slice x.po x.pn x.pc) x.pn (Ar Fk x.pl.parts)
structure N0 (w:World) (S:Nat->Prop) (x:ai):Prop where
 after:D5 w S x.so x.sn x.pl.sp.after
 nu:x.sn<=x.sc
 aj:D5 w S x.go x.gn x.pl.aj
 mi:x.gn<=x.gc
 parts:Bu w x
 user:x.pl.sp.user.size<=maxLen
 part:x.pl.sp.part.size<=maxLen
def ai.zero:ai:=⟨⟨0,dp.zero,Lf.zero,0,[],[]⟩,none,0,0,none,0,0,none,0,0⟩
def ai.az (x:ai) (l:Lf):ai:={ x with pl:={ x.pl with lf:=l } }
def ai.bare (x:ai):ai:={ x with pl:=x.pl.bare,go:=none,gn:=0,gc:=0 }
def Ace (p:Int×Int):(Fk p).size=2:=rfl
def J8 {w:World} {x:ai} (h:Bu w x):x.pl.parts.length=x.pn:=by
 have:=h.1
 have e:(Ar Fk x.pl.parts).length=x.pl.parts.length*2:=by
  induction x.pl.parts with
  | nil=>rfl
  | cons p l ih=>simp [Ar] at ih ⊢;omega
 omega
abbrev E3 (x:Er):Array Value:=#[.bool x.up,.bool x.bo,.int .i64 x.since]
def Ic (c:Cl):Value:=.agg #[.int .i64 c.seq,.int .i64 c.e,.int .i64 c.first,.int .i64 c.last]
structure Tv where
 tb:Nat
 mb:Nat
 nv:Value
 jv:Value
 fb:Nat
 fm:Nat
 fl:Nat
 cv:Value
 ah:Int
 tick:Int
 cls:List (Int×Cl)
 nodes:List Er
 js:List (Nat×ai)
 vs:List ax
def Tv.pl (T:Tv):di:=⟨T.ah,T.tick,T.cls,T.nodes,T.js.map fun j=>j.2.pl⟩
def Tv.ay (T:Tv) (b:Nat):Prop:=b=T.tb\/b=T.mb\/T.nv.ownBlock=some b\/T.jv.ownBlock=some b\/∃ j,j∈T.js/\(j.1=b\/j.2.pb=some b)
def mg (c:Cl):DU:=.agg [.lit (.int .i64 c.seq),.lit (.int .i64 c.e),.lit (.int .i64 c.first),.lit (.int .i64 c.last)]
def Fz (n:Int):Lit:=.int .i64 n
def Cl.zero:Cl:=⟨0,0,0,0⟩
def Ali {c d:Cl} (h:Ic c=Ic d):c=d:=by
 obtain ⟨a1,a2,a3,f⟩:=c;obtain ⟨g,i,j,k⟩:=d;simp [Ic] at h;obtain ⟨h1,a,b,e⟩:=h;subst h1 a b e;rfl
def Alj {c d:Cl} (h:mg c=mg d):c=d:=by
 obtain ⟨a1,a2,a3,f⟩:=c;obtain ⟨g,i,j,k⟩:=d;simp [mg] at h;obtain ⟨h1,a,b,e⟩:=h;subst h1 a b e;rfl
open Classical in
noncomputable def Ow (v:Value):Option (DU×List MemPlace):=if h:∃ c,v=Ic c then some (mg h.choose,[]) else none
def Acf (c:Cl):Ow (Ic c)=some (mg c,[]):=by
 unfold Ow;have h:∃ d,Ic c=Ic d:=⟨c,rfl⟩;rw [dif_pos h,<- Ali h.choose_spec]
def Alk {v:Value} {z:DU×List MemPlace} (h:Ow v=some z):∃ c,v=Ic c/\z=(mg c,[]):=by
 unfold Ow at h;split at h
 .rename_i a;injection h with h;exact ⟨a.choose,a.choose_spec,h.symm⟩
 .cases h
def All {v:Value} {c:Cl} {a:List MemPlace} (h:Ow v=some (mg c,a)):v=Ic c:=by
 obtain ⟨d,rfl,e⟩:=Alk h;injection e with e _;rw [Alj e]
def P5 (l:List (Int×Cl)):DU:=.map (l.map fun p=>(Fz p.1,mg p.2))
def J9 (l:List (Int×Cl)) (id:Int):Cl:=((l.find? fun p=>decide (p.1=id)).map Prod.snd).getD Cl.zero
def N1 (x:Int×Cl):List (Int×Cl)->List (Int×Cl)
 | []=>[x]
 | y :: r=>if x.1<y.1 then x :: y :: r else y :: N1 x r
def Jj (l:List (Int×Cl)) (id:Int) (c:Cl):List (Int×Cl):=N1 (id,c) (l.filter fun p=>!decide (p.1=id))
def Alm (x:Int×Cl) (l:List (Int×Cl)):DataW.insert (H:=Unit) (Fz x.1,mg x.2) (l.map fun p=>(Fz p.1,mg p.2))=(N1 x l).map fun p=>(Fz p.1,mg p.2):=by
 induction l with
 | nil=>rfl
 | cons y r ih=>
  simp only [J2,DataW.insert,N1];by_cases h:x.1<y.1
  .have a:(Fz x.1).before (Fz y.1)=true:=(by simp [Fz,Lit.before,h]);rw [Ad h,Ad a];rfl
  .have a:(Fz x.1).before (Fz y.1)=false:=(by simp [Fz,Lit.before];omega);rw [Ac h,a];simp [ih]
def Acg (a b:Int):(Fz a).sameKey (Fz b)=decide (a=b):=by simp [Fz,Lit.sameKey]
def Aln (l:List (Int×Cl)) (a:Int) (c:Cl):(P5 l).put (Fz a) (mg c)=P5 (Jj l a c):=by
 unfold P5 Jj;simp only [DataW.put];rw [<- Alm,List.filter_map];simp [G6,Acg]
def Alo (l:List (Int×Cl)) (a:Int):(P5 l).atKey (Fz a) (mg Cl.zero)=mg (J9 l a):=by
 unfold P5 J9;simp only [DataW.atKey];rw [List.find?_map];simp only [G6,Acg]
 cases List.find? (fun p:Int×Cl=>decide (p.1=a)) l<;>rfl
def Alp {w:World} {P:Program} {k:TypeId} {R:Value->Option (DU×List MemPlace)} {b n:Nat} {l:List (Lit×DU)} (h:w.ownsMap P k R b n (.map l)):w.ownsMap P k R b l.length (.map l):=by
 obtain ⟨d,a,e,F,f,c⟩:=h;refine ⟨d,a,e,F,?_,c⟩;injection c with c;rw [c,length_sorted];simp
def L2 (w:World) (mb:Nat) (l:List (Int×Cl)):Prop:=w.ownsMap (H:=Unit) Tryz.prog 3 Ow mb l.length (P5 l)
def L2.aq {w:World} {c:Nat} {l:List (Int×Cl)} (h:L2 w c l):∃ b d,w.heap[c]?=some (.map b d):=by
 obtain ⟨b,a,e,_⟩:=h;exact ⟨b,a,e⟩
def L2.mod {S:Nat->Prop} {w w':World} {b:Nat} {l:List (Int×Cl)} (h:L2 w b l) (c:Mod S w w') (d:¬ S b):L2 w' b l:=by
 obtain ⟨e,a,f,F,g,i⟩:=h;exact ⟨e,a,c.aq f d,F,g,i⟩
structure Ro (w:World) (S:Nat->Prop) (fb fm fl:Nat) (vs:List ax):Prop where
 ex:∃ w0,ir w0 fb fm fl vs/\Below w0.heap.size w0 w/\∀ b,S b->w0.heap.size<=b
 ok:Ir vs
def Ro.vi {w:World} {S:Nat->Prop} {a b c:Nat} {vs:List ax} (h:Ro w S a b c vs):ir w a b c vs:=by
 obtain ⟨e,h1,d,_⟩:=h.ex;exact h1.below d
def Ro.mod {S S':Nat->Prop} {w w':World} {a d e:Nat} {vs:List ax} (h:Ro w S a d e vs) (i:Mod S w w') (j:∀ k,S' k->S k\/w.heap.size<=k):Ro w' S' a d e vs:=by
 obtain ⟨l,h1,f,g⟩:=h.ex;have m:=f.size;refine ⟨⟨l,h1,f.trans (i.below m g),fun b n=>?_⟩,h.ok⟩;rcases j b n with c | c
 .exact g b c
 .omega
structure An (w:World) (T:Tv):Prop where
 head:w.heap[T.tb]?=some (.cells #[.int .i64 T.ah,.int .i64 T.tick,.map (some T.mb),T.nv,T.jv,.pointer (some ⟨T.fb,0,none⟩),T.cv] 115 (0,0))
 cls:L2 w T.mb T.cls
 nodes:w.ownsRow 0 119 3 T.nv T.nodes.length (Ar E3 T.nodes)
 ab:w.ownsRow 0 125 1 T.jv T.js.length (T.js.map fun j=>.pointer (some ⟨j.1,0,none⟩))
 aw:w.ownsRow 0 30 4 T.cv T.vs.length (Ar V4.cells (T.vs.map ax.cap))
 box:∀ j,j∈T.js->A9 w j.1 j.2
 ok:∀ j,j∈T.js->N0 w T.ay j.2
 one:(T.js.map Prod.fst).Nodup
 two:T.js.Pairwise fun x y=>∀ b,x.2.pb=some b->y.2.pb≠some b
 dj:Ro w T.ay T.fb T.fm T.fl T.vs
 same:T.nodes.length=T.vs.length
variable {w w':World} {T:Tv}
def An.rm (h:An w T) {j:Nat×ai} (a:j∈T.js) {b:Nat} (d:j.2.pb=some b):∃ c,w.heap[b]?=some (.cells c 65 (0,0)):=by
 obtain ⟨c,e,_⟩:=C1 (h.ok j a).parts d;exact ⟨c,e⟩
def An.mw (h:An w T) {b:Nat} (c:T.ay b):b<w.heap.size:=by
 rcases c with rfl | rfl | e | e | ⟨j,a,e | e⟩
 .exact Ab h.head
 .exact h.cls.lt
 .exact (Rd h.nodes b e).2
 .exact (Rd h.ab b e).2
 .exact e▸Ab (h.box j a)
 .exact (Rd (h.ok j a).parts b e).2
def N0.mod {S S':Nat->Prop} {x:ai} (h:N0 w S x) (a:Mod S w w') (b:∀ k,k<w.heap.size->S' k->S k) (c:Bu w' x):N0 w' S' x:=
 ⟨h.after.mod a b,h.nu,h.aj.mod a b,h.mi,c,h.user,h.part⟩
def An.low (h:An w T) (e:Below w.heap.size w w'):An w' T:=by
 have a:Mod (fun _=>False) w w':=Mod.af e;have b:Mod T.ay w w':=Mod.af e
 exact ⟨a.aq h.head (fun c=>c),h.cls.mod a (fun c=>c),Bb h.nodes a (fun _ _ c=>c),Bb h.ab a (fun _ _ c=>c),Bb h.aw a (fun _ _ c=>c),
  fun j d=>a.aq (h.box j d) (fun c=>c),fun j d=>(h.ok j d).mod b (fun _ _ c=>c) (Bb (h.ok j d).parts a (fun _ _ c=>c)),h.one,h.two,h.dj.mod b (fun _ c=>.inl c),h.same⟩
def F0 (j:Nat×ai) (b:Nat):Prop:=b=j.1\/j.2.pb=some b
def Tv.br (T:Tv) (i:Nat) (j:Nat×ai):Tv:={ T with js:=T.js.set i j }
def Rp {i:Nat} {j x:Nat×ai} (c:T.js[i]?=some x) (d:j.1=x.1) {b:Nat} (h:(T.br i j).ay b):T.ay b\/j.2.pb=some b:=by
 rcases h with e | e | e | e | ⟨k,a,e⟩
 .exact .inl (.inl e)
 .exact .inl (.inr (.inl e))
 .exact .inl (.inr (.inr (.inl e)))
 .exact .inl (.inr (.inr (.inr (.inl e))))
 .rcases Uu a with a | rfl
  .exact .inl (.inr (.inr (.inr (.inr ⟨k,a,e⟩))))
  .rcases e with e | e
   .exact .inl (.inr (.inr (.inr (.inr ⟨x,Aj c,.inl (d.symm.trans e)⟩))))
   .exact .inr e
def Fl {α:Type} {R:α->α->Prop} {l:List α} (h:l.Pairwise R) {i k:Nat} {x y:α} (b:l[i]?=some x) (c:l[k]?=some y) (a:i<k):R x y:=by
 obtain ⟨h1,rfl⟩:=Aq.1 b;obtain ⟨d,rfl⟩:=Aq.1 c;exact Oj.1 h i k h1 d a
def An.apart (h:An w T) {i k:Nat} {x y:Nat×ai} (c:T.js[i]?=some x) (d:T.js[k]?=some y) (f:i≠k):x.1≠y.1/\∀ b,x.2.pb=some b->y.2.pb≠some b:=by
 have h1:(T.js.map Prod.fst)[i]?=some x.1:=by simp [c]
 have j:(T.js.map Prod.fst)[k]?=some y.1:=by simp [d]
 rcases Q7 f with a | a
 .exact ⟨fun e=>Fl h.one h1 j a e,Fl h.two c d a⟩
 .exact ⟨fun e=>Fl h.one j h1 a e.symm,fun b l g=>Fl h.two d c a b g l⟩
def An.br (h:An w T) {i:Nat} {x j:Nat×ai} (hx:T.js[i]?=some x) (hb:j.1=x.1) (hm:Mod (F0 x) w w') (am:A9 w' j.1 j.2) (hp:Bu w' j.2)
  (ac:∀ b,j.2.pb=some b->x.2.pb=some b\/w.heap.size<=b)
  (ha:D5 w' (T.br i j).ay j.2.so j.2.sn j.2.pl.sp.after) (aE:j.2.sn<=j.2.sc) (hg:D5 w' (T.br i j).ay j.2.go j.2.gn j.2.pl.aj) (aF:j.2.gn<=j.2.gc)
  (hu:j.2.pl.sp.user.size<=maxLen) (aG:j.2.pl.sp.part.size<=maxLen):An w' (T.br i j):=by
 have t:=Aj hx;have an:=h.box x t;have hJ:∀ b,F0 x b->T.ay b:=fun b c=>.inr (.inr (.inr (.inr ⟨x,t,c.imp (fun e=>e.symm) id⟩)));have ao:=hm.mono fun b _ c=>hJ b c
 have ap:∀ k,k<w.heap.size->(T.br i j).ay k->T.ay k:=fun k d c=>by
  rcases Rp hx hb c with c | c
  .exact c
  .rcases ac k c with c | c
   .exact hJ k (.inr c)
   .omega
 have n1:∀ (o:Obj) (k:Nat),w.heap[k]?=some o->(∀ c fr,o≠.cells c 46 fr)->(∀ c fr,o≠.cells c 65 fr)->¬ F0 x k:=fun o k d h1 h2 c=>by
  rcases c with rfl | c
  .rw [an] at d;injection d with d;exact h1 _ _ d.symm
  .obtain ⟨c',g⟩:=h.rm t c;rw [g] at d;injection d with d;exact h2 _ _ d.symm
 have m:∀ {B size n:Nat} {Ty:TypeId} {v:Value} {xs:List Value},w.ownsRow B Ty size v n xs->Ty≠46->Ty≠65->∀ k,v.ownBlock=some k->¬ F0 x k:=fun hr e1 e2 k d=>by
  obtain ⟨aL,g,_⟩:=C1 hr d;exact n1 _ _ g (fun c fr e=>by injection e with _ e;exact e1 e) (fun c fr e=>by injection e with _ e;exact e2 e)
 obtain ⟨es,cl,av⟩:=h.cls.aq
 have p:∀ k y,T.js[k]?=some y->k≠i->A9 w' y.1 y.2/\Bu w' y.2:=fun k y q d=>by
  have aA:=h.apart q hx d;have u:=Aj q;refine ⟨hm.aq (h.box y u) fun c=>?_,Bb (h.ok y u).parts hm fun b z c=>?_⟩
  .rcases c with c | c
   .exact aA.1 c
   .obtain ⟨c',g⟩:=h.rm t c;have:=h.box y u;rw [A9,g] at this;injection this with this;injection this with _ this;exact absurd this (by decide)
  .rcases c with rfl | c
   .obtain ⟨c',g⟩:=h.rm u z;rw [an] at g;injection g with g;injection g with _ g;exact absurd g (by decide)
   .exact aA.2 b z c
 have aB:∀ y,y∈(T.br i j).js->y=j\/∃ k,T.js[k]?=some y/\k≠i:=fun y q=>by
  obtain ⟨k,d⟩:=Dr q;have f:(T.js.set i j)[k]?=some y:=d;rw [Do] at f;split at f
  .split at f
   .injection f with f;exact .inl f.symm
   .cases f
  .rename_i r;exact .inr ⟨k,f,fun e=>r e.symm⟩
 refine ⟨hm.aq h.head (n1 _ _ h.head (fun c fr e=>by injection e with _ e;exact absurd e (by decide)) (fun c fr e=>by injection e with _ e;exact absurd e (by decide))),
  h.cls.mod hm (n1 _ _ av (fun c fr e=>by cases e) (fun c fr e=>by cases e)),Bb h.nodes hm (m h.nodes (by decide) (by decide)),?_,Bb h.aw hm (m h.aw (by decide) (by decide)),?_,?_,?_,?_,h.dj.mod ao ?_,h.same⟩
 .have e:((T.br i j).js.map fun j=>Value.pointer (some ⟨j.1,0,none⟩))=T.js.map fun j=>Value.pointer (some ⟨j.1,0,none⟩):=by
   show (T.js.set i j).map _=_;rw [Mw];apply Ee;intro k;rw [Do];split
   .rename_i ad;subst ad;obtain ⟨hl,al⟩:=Aq.1 hx;simp [hl,al,hb]
   .rfl
  have e2:(T.br i j).js.length=T.js.length:=Dg;rw [e,e2];exact Bb h.ab hm (m h.ab (by decide) (by decide))
 .intro y q;rcases aB y q with rfl | ⟨k,d,r⟩
  .exact am
  .exact (p k y d r).1
 .intro y q;rcases aB y q with rfl | ⟨k,d,r⟩
  .exact ⟨ha,aE,hg,aF,hp,hu,aG⟩
  .exact (h.ok y (Aj d)).mod ao ap (p k y d r).2
 .have e:(T.br i j).js.map Prod.fst=T.js.map Prod.fst:=by
   show (T.js.set i j).map _=_;rw [Mw];apply Ee;intro k;rw [Do];split
   .rename_i ad;subst ad;obtain ⟨hl,al⟩:=Aq.1 hx;simp [hl,al,hb]
   .rfl
  rw [e];exact h.one
 .show (T.js.set i j).Pairwise _
  have aC:∀ k y,T.js[k]?=some y->k≠i->∀ b,(y.2.pb=some b->j.2.pb≠some b):=fun k y q d b aD aH=>by
   rcases ac b aH with c | c
   .exact (h.apart q hx d).2 b aD c
   .obtain ⟨c',g⟩:=h.rm (Aj q) aD;have:=Ab g;omega
  refine Oj.2 fun a b aI z aJ=>?_;have s:=Am aI;have l:=Am z;generalize (T.js.set i j)[a]=ya at s ⊢;generalize (T.js.set i j)[b]=yb at l ⊢;rw [Do] at s l;by_cases h1:i=a
  .subst h1;have h2:i≠b:=(by omega);rw [Ac h2] at l;simp only [Ky] at s;split at s
   .injection s with s;subst s;exact fun c h1 aK=>aC b yb l (fun e=>h2 e.symm) c aK h1
   .cases s
  .rw [Ac h1] at s;by_cases h2:i=b
   .subst h2;simp only [Ky] at l;split at l
    .injection l with l;subst l;exact fun c=>aC a ya s (fun e=>h1 e.symm) c
    .cases l
   .rw [Ac h2] at l;exact Fl h.two s l aJ
 .intro k c;rcases Rp hx hb c with c | c
  .exact .inl c
  .rcases ac k c with c | c
   .exact .inl (hJ k (.inr c))
   .exact .inr c
end Go.Proofs.YtimlcnhcjndijaaGreatDoor
namespace Go.Proofs.YtimlcnhcjndijaaGreatDoor
open Go.RowKit Go.Maps
def Amy {w:World} {b:Nat} {x:ai} (g:A9 w b x):Calls Tryz.prog 180 #[.pointer (some ⟨b,0,none⟩)] w fun e w'=>e=.returned (.bool x.pl.waits)/\w'=w:=by
 have y:=Bk g 14 (.int .i64 x.pl.lf.st) rfl;obtain ⟨s,f⟩:=Ex (x.pl.lf.st);have d:x.pl.waits=dx s:=by rw [f];rfl
 rw [<- f] at y;replace ⟨g,f,d⟩:=H3 g f d;by_cases a:s=1
 .have h:=My.2 a;have c:dx s=true:=by unfold dx;simp [a]
  replace ⟨a,c⟩:=H2 a c;go_enter Tryz.func180,Tryz.ntmps180;go_wp2;go_ret;exact ⟨by rw [d.out,c.out];rfl,rfl⟩
 .have h:=Bg.2 a;by_cases b:s=2
  .have i:=My.2 b;have c:dx s=true:=(by unfold dx;simp [b]);replace ⟨a,b,c⟩:=H3 a b c;go_enter Tryz.func180,Tryz.ntmps180;go_wp2;go_ret;exact ⟨by rw [d.out,c.out];rfl,rfl⟩
  .have i:=Bg.2 b;have c:dx s=false:=(by unfold dx;simp [a,b]);replace ⟨a,b,c⟩:=H3 a b c;go_enter Tryz.func180,Tryz.ntmps180;go_wp2;go_ret;exact ⟨by rw [d.out,c.out];rfl,rfl⟩
abbrev Kb (b:Nat) (w w':World):Prop:=Mod (fun k=>k=b) w w'
def Vo {w:World} {b:Nat} {x:ai} (c:A9 w b x):Calls Tryz.prog 138 #[.pointer (some ⟨b,0,none⟩)] w fun e w'=>e=.returned (.tuple #[])/\A9 w' b x.bare/\Kb b w w':=by
 have g:∃ v,w.cell? ⟨b,19,none⟩=some v:=⟨_,Aa c 19⟩;have h:∃ v,w.cell? ⟨b,20,none⟩=some v:=⟨_,Aa c 20⟩;obtain ⟨i,g⟩:=g;obtain ⟨j,h⟩:=h;have l:=Ah c;have a:=Al (Al c 19 (.int .i64 (-1))) 20 (.slice none 0 0);have d:A9 ((w.setCell ⟨b,19,none⟩ (.int .i64 (-1))).setCell ⟨b,20,none⟩ (.slice none 0 0)) b x.bare:=by unfold A9;rw [a];simp [ai.bare,Jb.bare]
 have f:Kb b w ((w.setCell ⟨b,19,none⟩ (.int .i64 (-1))).setCell ⟨b,20,none⟩ (.slice none 0 0)):=((Mod.refl (fun k=>k=b) w).set b 19 _ rfl).set b 20 _ rfl;replace ⟨c,a,d,f⟩:=H4 c a d f;go_enter Tryz.func138,Tryz.ntmps138;go_wp2;go_end0;exact ⟨rfl,d.out,f.out⟩
def R0 {w:World} {b:Nat} {x:ai} (g:A9 w b x) (s:Int) (v:1<=s/\s<=8):Calls Tryz.prog 139 #[.pointer (some ⟨b,0,none⟩),.int .i64 s] w fun e w'=>e=.returned (.tuple #[])/\A9 w' b (x.az (Ay x.pl.lf s).1)/\Kb b w w':=by
 obtain ⟨l,r⟩:=Ex ((Ay x.pl.lf s).1);obtain ⟨er,o⟩:=Ex ((Ay x.pl.lf s).2);have q:=Ac0 x.pl.lf s w v;rw [<- r,<- o] at q;rw [<- r];clear r o;obtain ⟨⟨id,sp,⟨st,u,left,i,j⟩,start,aj,parts⟩,so,sn,sc,go_,gn,gc,po,pn,pc⟩:=x;obtain ⟨p,m,c,d,f⟩:=l;have y:=Bk g 14 (.int .i64 st) rfl;have z:=Bk g 15 (.int .i64 u) rfl;have ac:=Bk g 16 (.int .i64 left) rfl;have ad:=Bk g 17 (.bool i) rfl;have al:=Bk g 18 (.bool j) rfl;replace ⟨q,g⟩:=H2 q g;go_enter Tryz.func139,Tryz.ntmps139;go_wp2_with fail;refine q.out.mono ?_;rintro e w1 ⟨rfl,h⟩;have a:=Ae h g.out (Ab g.out);have f1:=Ah a;have am:=Bk a 14 (.int .i64 st) rfl;have an:=Bk a 15 (.int .i64 u) rfl;have ao:=Bk a 16 (.int .i64 left) rfl;have ap:=Bk a 17 (.bool i) rfl;have av:=Bk a 18 (.bool j) rfl;have n:=Al (Al (Al (Al (Al a 14 (.int .i64 p)) 15 (.int .i64 m)) 16 (.int .i64 c)) 17 (.bool d)) 18 (.bool f)
 have t:Kb b w (((((w1.setCell ⟨b,14,none⟩ (.int .i64 p)).setCell ⟨b,15,none⟩ (.int .i64 m)).setCell ⟨b,16,none⟩ (.int .i64 c)).setCell ⟨b,17,none⟩ (.bool d)).setCell ⟨b,18,none⟩ (.bool f)):=
  ((((((Mod.af (S:=fun k=>k=b) h).set b 14 _ rfl).set b 15 _ rfl).set b 16 _ rfl).set b 17 _ rfl).set b 18 _ rfl)
 replace ⟨a,n,t,h⟩:=H4 a n t h;go_wp2;go_end0;refine ⟨rfl,?_,t.out⟩;unfold A9;rw [n.out];simp [ai.az]
def Vp {a b:Bool} (h:a=b):Ending.returned (.bool a)=.returned (.bool b):=by rw [h]
def Ac1 (b:Bool) (w:World) (e:Ending) (w':World):Prop:=∃ r:Int,e=.returned (.int .i64 r)/\(0<=r↔b=true)/\Below w.heap.size w w'
def Amz (F:FuncId) (z:Array Value) (p:Int->Bool) (so:Option Addr) (n c:Nat) (xs:List Int) (w:World) (h:Ap w so n xs)
  (hF:∀ args w,(callFunc F args).run Tryz.prog w=.ok (.enter F args) w)
  (H:∀ x,x∈xs->∀ w1,Below w.heap.size w w1->Calls Tryz.prog F (#[.int .i64 x]++z) w1 fun e w2=>e=.returned (.bool (p x))/\Below w1.heap.size w1 w2) :
  Calls Tryz.prog 272 #[.slice so n c,.func (.func F) #[] z] w (Ac1 (xs.any p) w):=by
 have g:=h.len;have ac:=h.max;replace ⟨h,g,H⟩:=H3 h g H;go_enter Tryz.func272,Tryz.ntmps272;go_wp2;go_loopw [5,8] (fun _ i wr=>∃ k:Nat,i=.int .i64 k/\k<=n/\Hid (∀ j x,j<k->xs[j]?=some x->p x=false)/\Hid (Below w.heap.size w wr)) (fun _ i _=>n-(intOf i).toNat)
 case atStart=>exact ⟨0,rfl,Av _,(fun j x h=>by omega),Below.refl _ _⟩
 case round=>
  obtain ⟨k,rfl,hk,l,d⟩:=hrel;by_cases hc:k<n
  .have u:(k:Int)<n:=(by omega);have ad:(0:Int)<=(k:Int):=(by omega);obtain ⟨y,r⟩:=h.out.get hc;obtain ⟨b,al,rfl,hb,a0⟩:=(h.out.low d.out).cell k y r;have f:=H.out y (Aj r) wr d.out;replace ⟨f,r⟩:=H2 f r;obtain ⟨q,s⟩:=Ex (p y);go_wp2_with fail;refine f.out.mono ?_;rintro e w2 ⟨rfl,m⟩;have a:=d.out.trans (m.mono d.out.size);rw [<- s];replace ⟨a,m,s⟩:=H3 a m s
   cases q with
   | true=>
    have o:=Kv.2 ⟨y,Aj r.out,s.out.symm⟩;replace o:=Hh o;go_wp2;go_ret;exact ⟨k,rfl,⟨fun _=>o.out,fun _=>by omega⟩,a.out⟩
   | false=>
    have v:∀ j x,j<k+1->xs[j]?=some x->p x=false:=fun j x hj e=>by
     by_cases c:j=k
     .subst c;have:=r.out;rw [e] at this;injection this with this;rw [this];exact s.out.symm
     .exact l.out j x (by omega) e
    replace v:=Hh v;go_wp2;go_roundw
    case rel=>exact ⟨k+1,by go_num,by omega,v.out,a.out⟩
    case measure=>simp [intOf];omega
  .have u:¬ (k:Int)<n:=(by omega);have o:xs.any p=false:=(by rw [I8];intro c;obtain ⟨x,hx,t⟩:=Kv.1 c;obtain ⟨j,hj,e⟩:=Q5.1 hx;have hl:=g.out;rw [l.out j x (by omega) (by rw [Am hj,e])] at t;cases t);replace o:=Hh o;go_wp2;go_ret;exact ⟨-1,rfl,⟨fun h=>by omega,fun h=>by rw [o.out] at h;cases h⟩,d.out⟩
def Ac2 (F:FuncId) (g:Array Value) (p:Int->Bool) (so:Option Addr) (n c:Nat) (xs:List Int) (w:World) (h:Ap w so n xs)
  (hF:∀ args w,(callFunc F args).run Tryz.prog w=.ok (.enter F args) w)
  (H:∀ x,x∈xs->∀ w1,Below w.heap.size w w1->Calls Tryz.prog F (#[.int .i64 x]++g) w1 fun e j=>e=.returned (.bool (p x))/\Below w1.heap.size w1 j) :
  Calls Tryz.prog 231 #[.slice so n c,.func (.func F) #[] g] w fun e w'=>e=.returned (.bool (xs.any p))/\Below w.heap.size w w':=by
 have f:=Amz F g p so n c xs w h hF H;obtain ⟨q,i⟩:=Ex (xs.any p);rw [<- i] at f;rw [<- i];clear i;replace ⟨f,H,h⟩:=H3 f H h;go_enter Tryz.func231,Tryz.ntmps231;go_wp2_with fail;refine f.out.mono ?_;rintro e j ⟨r,rfl,a,b⟩
 cases q with
 | true=>
  have d:=a.2 rfl;replace ⟨a,b⟩:=H2 a b;go_wp2;go_ret;exact ⟨Vp (by simp),b.out⟩
 | false=>
  have d:¬ (0:Int)<=r:=fun h=>by cases a.1 h
  replace ⟨a,b⟩:=H2 a b;go_wp2;go_ret;exact ⟨Vp (by simpa using d),b.out⟩
structure M8 (w:World) (so:Option Addr) (n:Nat) (xs:List (Int×Int)):Prop where
 len:xs.length=n
 max:n<=9223372036854775807
 cell:∀ i x,xs[i]?=some x->∃ b,so=some ⟨b,0,none⟩/\b<w.heap.size/\w.cell? ⟨b,i*2,none⟩=some (.int .i64 x.1)/\w.cell? ⟨b,i*2+1,none⟩=some (.int .i64 x.2)
def M8.low {w w':World} {so:Option Addr} {n:Nat} {xs:List (Int×Int)} (h:M8 w so n xs) (c:Below w.heap.size w w'):M8 w' so n xs:=
 ⟨h.len,h.max,fun i x d=>by
  obtain ⟨b,e,a,h0,h1⟩:=h.cell i x d
  exact ⟨b,e,Br a c.size,(Ag c a).trans h0,(Ag c a).trans h1⟩⟩
def M8.get {w:World} {so:Option Addr} {n:Nat} {xs:List (Int×Int)} (h:M8 w so n xs) {i:Nat} (a:i<n):∃ x,xs[i]?=some x:=⟨_,Am (by rw [h.len];exact a)⟩
def M8.uf {w:World} {so:Option Addr} {n:Nat} {xs:List (Int×Int)} (h:M8 w so n xs) {i:Nat} {x:Int×Int} (a:xs[i]?=some x):∃ b,so=some ⟨b,0,none⟩/\w.cell? ⟨b,i*2,none⟩=some (.int .i64 x.1)/\w.cell? ⟨b,i*2+1,none⟩=some (.int .i64 x.2):=by
 obtain ⟨b,e,_,h0,h1⟩:=h.cell i x a;exact ⟨b,e,h0,h1⟩
def Am0 (F:FuncId) (z:Array Value) (p:Int×Int->Bool) (so:Option Addr) (n c:Nat) (xs:List (Int×Int)) (w:World) (h:M8 w so n xs)
  (hF:∀ args w,(callFunc F args).run Tryz.prog w=.ok (.enter F args) w)
  (H:∀ x,x∈xs->∀ w1,Below w.heap.size w w1->Calls Tryz.prog F (#[.agg #[.int .i64 x.1,.int .i64 x.2]]++z) w1 fun e w2=>e=.returned (.bool (p x))/\Below w1.heap.size w1 w2) :
  Calls Tryz.prog 233 #[.slice so n c,.func (.func F) #[] z] w (Ac1 (xs.any p) w):=by
 have g:=h.len;have ac:=h.max;replace ⟨h,g,H⟩:=H3 h g H;go_enter Tryz.func233,Tryz.ntmps233;go_wp2;go_loopw [5,8] (fun _ i wr=>∃ k:Nat,i=.int .i64 k/\k<=n/\Hid (∀ j x,j<k->xs[j]?=some x->p x=false)/\Hid (Below w.heap.size w wr)) (fun _ i _=>n-(intOf i).toNat)
 case atStart=>exact ⟨0,rfl,Av _,(fun j x h=>by omega),Below.refl _ _⟩
 case round=>
  obtain ⟨k,rfl,hk,l,d⟩:=hrel;by_cases hc:k<n
  .have u:(k:Int)<n:=(by omega);have ad:(0:Int)<=(k:Int):=(by omega);obtain ⟨y,r⟩:=h.out.get hc;obtain ⟨b,rfl,a0,a1⟩:=(h.out.low d.out).uf r;have f:=H.out y (Aj r) wr d.out;replace ⟨f,r⟩:=H2 f r;obtain ⟨q,s⟩:=Ex (p y);go_wp2_with fail;refine f.out.mono ?_;rintro e w2 ⟨rfl,m⟩;have a:=d.out.trans (m.mono d.out.size);rw [<- s];replace ⟨a,m,s⟩:=H3 a m s
   cases q with
   | true=>
    have o:=Kv.2 ⟨y,Aj r.out,s.out.symm⟩;replace o:=Hh o;go_wp2;go_ret;exact ⟨k,rfl,⟨fun _=>o.out,fun _=>by omega⟩,a.out⟩
   | false=>
    have v:∀ j x,j<k+1->xs[j]?=some x->p x=false:=fun j x hj e=>by
     by_cases c:j=k
     .subst c;have:=r.out;rw [e] at this;injection this with this;rw [this];exact s.out.symm
     .exact l.out j x (by omega) e
    replace v:=Hh v;go_wp2;go_roundw
    case rel=>exact ⟨k+1,by go_num,by omega,v.out,a.out⟩
    case measure=>simp [intOf];omega
  .have u:¬ (k:Int)<n:=(by omega);have o:xs.any p=false:=(by rw [I8];intro c;obtain ⟨x,hx,t⟩:=Kv.1 c;obtain ⟨j,hj,e⟩:=Q5.1 hx;have hl:=g.out;rw [l.out j x (by omega) (by rw [Am hj,e])] at t;cases t);replace o:=Hh o;go_wp2;go_ret;exact ⟨-1,rfl,⟨fun h=>by omega,fun h=>by rw [o.out] at h;cases h⟩,d.out⟩
def Am1 (F:FuncId) (g:Array Value) (p:Int×Int->Bool) (so:Option Addr) (n c:Nat) (xs:List (Int×Int)) (w:World) (h:M8 w so n xs)
  (hF:∀ args w,(callFunc F args).run Tryz.prog w=.ok (.enter F args) w)
  (H:∀ x,x∈xs->∀ w1,Below w.heap.size w w1->Calls Tryz.prog F (#[.agg #[.int .i64 x.1,.int .i64 x.2]]++g) w1 fun e j=>e=.returned (.bool (p x))/\Below w1.heap.size w1 j) :
  Calls Tryz.prog 182 #[.slice so n c,.func (.func F) #[] g] w fun e w'=>e=.returned (.bool (xs.any p))/\Below w.heap.size w w':=by
 have f:=Am0 F g p so n c xs w h hF H;obtain ⟨q,i⟩:=Ex (xs.any p);rw [<- i] at f;rw [<- i];clear i;replace ⟨f,H,h⟩:=H3 f H h;go_enter Tryz.func182,Tryz.ntmps182;go_wp2_with fail;refine f.out.mono ?_;rintro e j ⟨r,rfl,a,b⟩
 cases q with
 | true=>
  have d:=a.2 rfl;replace ⟨a,b⟩:=H2 a b;go_wp2;go_ret;exact ⟨Vp (by simp),b.out⟩
 | false=>
  have d:¬ (0:Int)<=r:=fun h=>by cases a.1 h
  replace ⟨a,b⟩:=H2 a b;go_wp2;go_ret;exact ⟨Vp (by simpa using d),b.out⟩
def An.ll {w:World} {T:Tv} (h:An w T) {k:Nat} {j:Nat×ai} (d:T.js[k]?=some j):∃ g cap,w.cell? ⟨T.tb,4,none⟩=some (.slice (some ⟨g,0,none⟩) T.js.length cap)/\w.cell? ⟨g,k,none⟩=some (.pointer (some ⟨j.1,0,none⟩))/\T.js.length<=cap/\T.jv=.slice (some ⟨g,0,none⟩) T.js.length cap:=by
 have m:=(Aq.1 d).1;obtain ⟨g,cap,e⟩:=Joins.ownsRow_form h.ab (by omega);have b:=h.ab;rw [e] at b;have i:=Gr b k (by omega);refine ⟨g,cap,?_,?_,?_,e⟩
 .rw [Aa h.head 4,<- e];rfl
 .rw [i];simp [d]
 .rcases b.2 with ⟨a,_⟩ | ⟨n,f,l,a,_,_,c,_⟩
  .simp at a
  .simp at a;rw [a.2];exact c
def Am2:∀ args w,(callFunc 232 args).run Tryz.prog w=.ok (.enter 232 args) w:=Im Tryz.func232 (by decide) (by simp [Tryz.f232])
def Vq (s:Int):Bool:=jk s && decide (s≠5)
def Ac3 {T:Tv} {k:Nat} {j:Nat×ai} (a:T.js[k]?=some j):Lz T.pl.ab ((k:Int)+1)=j.2.pl.lf.st:=by
 unfold Lz Tv.pl;have e:((k:Int)+1-1).toNat=k:=by omega
 rw [e];simp [a]
def Am3 {w:World} {T:Tv} (h:An w T) (r:Nat) (l:w.cell? ⟨r,0,none⟩=some (.pointer (some ⟨T.tb,0,none⟩))) (k:Nat) (t:k<T.js.length) :
  Calls Tryz.prog 232 (#[.int .i64 ((k:Int)+1)]++#[.pointer (some ⟨r,0,none⟩)]) w fun e w'=>e=.returned (.bool (Vq (Lz T.pl.ab ((k:Int)+1))))/\w'=w:=by
 obtain ⟨j,f⟩:∃ j,T.js[k]?=some j:=⟨_,Am t⟩;rw [Ac3 f];obtain ⟨g,cap,u,cj,ac,_⟩:=h.ll f;obtain ⟨tb,v⟩:=Ex (T.tb);obtain ⟨jb,a⟩:=Ex (j.1);obtain ⟨m,x⟩:=Ex (T.js.length);obtain ⟨s,n⟩:=Ex (j.2.pl.lf.st);have cs:w.cell? ⟨j.1,14,none⟩=some (.int .i64 j.2.pl.lf.st):=Aa (h.box j (Aj f)) 14
 have y:m<=9223372036854775807:=by
  rcases h.ab.2 with ⟨_,e2⟩ | ⟨g',z,ad,e2,_,_,h1,h2,_⟩
  .omega
  .unfold maxLen at h2;omega
 rw [<- a,<- n] at cs;rw [<- v] at u l;rw [<- x] at u t;rw [<- a] at cj;rw [<- n];have al:(k:Int)<m:=by omega
 have am:(0:Int)<=(k:Int):=by omega
 have i:=Yw s w;obtain ⟨o,p⟩:=Ex (jk s);have b:Vq s=(o && decide (s≠5)):=by rw [p];rfl
 rw [<- p] at i;clear v a x n p h f;replace ⟨i,b⟩:=H2 i b;go_enter Tryz.func232,Tryz.ntmps232;go_wp2_with fail;refine (i.out).mono ?_;rintro e w' ⟨rfl,rfl⟩
 cases o with
 | false=>
  go_wp2;go_ret;exact ⟨by rw [b.out];rfl,rfl⟩
 | true=>
  by_cases q:s=5
  .have d:(s != (5:Int))=false:=(by rw [q];rfl);have c:decide (s≠5)=false:=(by simp [q]);rw [c] at b;replace ⟨q,c⟩:=H2 q c;go_wp2;go_ret;exact ⟨by rw [b.out];rfl,rfl⟩
  .have d:(s != (5:Int))=true:=(by rw [Fg];exact q);have c:decide (s≠5)=true:=(by simp [q]);rw [c] at b;replace ⟨q,c⟩:=H2 q c;go_wp2;go_ret;exact ⟨by rw [b.out];rfl,rfl⟩
def Am4 {w:World} {T:Tv} (h:An w T) {i:Nat} {j:Nat×ai} (hj:T.js[i]?=some j) (hr:∀ c,c∈j.2.pl.sp.after->1<=c/\c<=(T.js.length:Int)) :
  Calls Tryz.prog 181 #[.pointer (some ⟨T.tb,0,none⟩),.pointer (some ⟨j.1,0,none⟩)] w fun e w'=>e=.returned (.bool (Rn T.pl.ab j.2.pl))/\Below w.heap.size w w':=by
 have f:=Aj hj;have cs:=Bk (h.box j f) 13 (.slice j.2.so j.2.sn j.2.sc) rfl;have ak:=(h.ok j f).after.row;obtain ⟨u,b⟩:=Ex (w.alloc (.cells #[.pointer (some ⟨T.tb,0,none⟩)] 27 (0,0)));have a:Below w.heap.size w u:=by rw [b];exact Bn
 have n:u.cell? ⟨w.heap.size,0,none⟩=some (.pointer (some ⟨T.tb,0,none⟩)):=by rw [b];exact Aa (Af _ _) 0
 have o:w.heap.size<u.heap.size:=by rw [b];simp
 have g:=(Ag a (Ab (h.box j f))).trans cs
 have l:=Ac2 232 #[.pointer (some ⟨w.heap.size,0,none⟩)] (fun c=>Vq (Lz T.pl.ab c)) j.2.so j.2.sn j.2.sc j.2.pl.sp.after u (ak.low a) Am2 (fun c x w1 p=>by
  obtain ⟨h1,h2⟩:=hr c x;obtain ⟨k,rfl⟩:∃ k:Nat,c=(k:Int)+1:=⟨(c-1).toNat,by omega⟩
  exact (Am3 ((h.low a).low p) w.heap.size ((Ag p o).trans n) k (by omega)).mono fun e w' ⟨he,hw⟩=>⟨he,by rw [hw];exact Below.refl _ _⟩)
 have hz:Rn T.pl.ab j.2.pl=(j.2.pl.sp.after.any fun c=>Vq (Lz T.pl.ab c)):=rfl;rw [<- hz] at l;obtain ⟨q,y⟩:=Ex (Rn T.pl.ab j.2.pl);rw [<- y] at l;rw [<- y];obtain ⟨tb,v⟩:=Ex (T.tb);obtain ⟨jb,m⟩:=Ex (j.1);obtain ⟨so,r⟩:=Ex (j.2.so);obtain ⟨sn,s⟩:=Ex (j.2.sn);obtain ⟨sc,t⟩:=Ex (j.2.sc);rw [<- r,<- s,<- t] at l g;rw [<- m] at g;rw [b,<- v] at l;rw [b,<- v] at a g;rw [<- v,<- m];clear y hz ak cs n o b r s t m v h hj hr f;replace ⟨l,a⟩:=H2 l a;go_enter Tryz.func181,Tryz.ntmps181;go_wp2_with fail;refine (l.out).mono ?_;rintro e w' ⟨rfl,z⟩;have d:=a.out.trans (z.mono a.out.size);replace ⟨d,z⟩:=H2 d z;go_wp2;go_ret;exact ⟨rfl,d.out⟩
structure Gw (x y:ai):Prop where
 so:y.so=x.so
 sn:y.sn=x.sn
 sc:y.sc=x.sc
 after:y.pl.sp.after=x.pl.sp.after
 user:y.pl.sp.user=x.pl.sp.user
 part:y.pl.sp.part=x.pl.sp.part
 aj:(y.go=x.go/\y.gn=x.gn/\y.gc=x.gc/\y.pl.aj=x.pl.aj)\/(y.go=none/\y.gn=0/\y.pl.aj=[])
 pb:∀ b,y.pb=some b->x.pb=some b
def Gw.refl (x:ai):Gw x x:=⟨rfl,rfl,rfl,rfl,rfl,rfl,.inl ⟨rfl,rfl,rfl,rfl⟩,fun _ h=>h⟩
def Gw.trans {x y z:ai} (h:Gw x y) (k:Gw y z):Gw x z:=
 ⟨k.so.trans h.so,k.sn.trans h.sn,k.sc.trans h.sc,k.after.trans h.after,k.user.trans h.user,k.part.trans h.part,by
  rcases k.aj with ⟨a,b,c,d⟩ | c
  .rcases h.aj with ⟨f,g,j,i⟩ | ⟨f,g,i⟩
   .exact .inl ⟨a.trans f,b.trans g,c.trans j,d.trans i⟩
   .exact .inr ⟨a.trans f,b.trans g,d.trans i⟩
  .exact .inr c,fun b e=>h.pb b (k.pb b e)⟩
def Vr (x:ai) (l:Lf):Gw x (x.az l):=⟨rfl,rfl,rfl,rfl,rfl,rfl,.inl ⟨rfl,rfl,rfl,rfl⟩,fun _ h=>h⟩
def Vs (x:ai):Gw x x.bare:=⟨rfl,rfl,rfl,rfl,rfl,rfl,.inr ⟨rfl,rfl,rfl⟩,fun _ h=>h⟩
variable {w w' wr:World} {T:Tv}
def An.de (h:An w T) {i b:Nat} {x y:ai} (l:T.js[i]?=some (b,x)) (q:Mod (F0 (b,x)) w w') (m:A9 w' b y) (r:Bu w' y) (d:Gw x y):An w' (T.br i (b,y)):=by
 have a:=h.ok _ (Aj l)
 have f:∀ k,k<w.heap.size->(T.br i (b,y)).ay k->T.ay k:=fun k _ c=>by
  rcases Rp (j:=(b,y)) l rfl c with c | c
  .exact c
  .exact .inr (.inr (.inr (.inr ⟨_,Aj l,.inr (d.pb k c)⟩)))
 have n:Mod T.ay w w':=q.mono fun k _ c=>.inr (.inr (.inr (.inr ⟨_,Aj l,c.imp (fun e=>e.symm) id⟩)));refine h.br l rfl q m r (fun k c=>.inl (d.pb k c)) ?_ ?_ ?_ ?_ ?_ ?_
 .have:=a.after.mod n f;show D5 w' _ y.so y.sn y.pl.sp.after;rw [d.so,d.sn,d.after];exact this
 .show y.sn<=y.sc;rw [d.sn,d.sc];exact a.nu
 .show D5 w' _ y.go y.gn y.pl.aj;rcases d.aj with ⟨o,g,_,p⟩ | ⟨o,g,p⟩
  .rw [o,g,p];exact a.aj.mod n f
  .rw [o,g,p];exact Acd _ _
 .show y.gn<=y.gc;rcases d.aj with ⟨_,g,s,_⟩ | ⟨_,g,_⟩
  .rw [g,s];exact a.mi
  .rw [g];exact Av _
 .show y.pl.sp.user.size<=maxLen;rw [d.user];exact a.user
 .show y.pl.sp.part.size<=maxLen;rw [d.part];exact a.part
structure Bq (w:World) (T:Tv) (js:List (Nat×ai)) (wr:World):Prop where
 at_:An wr { T with js:=js }
 aq:js.map Prod.fst=T.js.map Prod.fst
 ay:∀ b,({ T with js:=js }:Tv).ay b->T.ay b\/w.heap.size<=b
 mod:Mod T.ay w wr
 kp:∀ (i:Nat) (x y:Nat×ai),T.js[i]?=some x->js[i]?=some y->Gw x.2 y.2
def Bq.refl (h:An w T):Bq w T T.js w:=⟨h,rfl,fun _ c=>.inl c,Mod.refl _ _,fun i x y b a=>by rw [b] at a;injection a with a;rw [a];exact Gw.refl _⟩
def Bq.low {js:List (Nat×ai)} (h:Bq w T js wr) (a:Below wr.heap.size wr w'):Bq w T js w':=⟨h.at_.low a,h.aq,h.ay,h.mod.low a,h.kp⟩
def Bq.len {js:List (Nat×ai)} (h:Bq w T js wr):js.length=T.js.length:=by
 have:=Ca List.length h.aq;simpa using this
def Bq.then {js a:List (Nat×ai)} (h:Bq w T js wr) (d:Bq wr { T with js:=js } a w'):Bq w T a w':=
 ⟨d.at_,d.aq.trans h.aq,fun b c=>by
  rcases d.ay b c with c | c
  .exact h.ay b c
  .exact .inr (A6 h.mod.size c),h.mod.then d.mod fun k l c=>by
  rcases h.ay k c with c | c
  .exact c
  .omega,fun i x z e g=>by
  have j:i<js.length:=by rw [h.len];exact (Aq.1 e).1
  have f:=Am j
  exact (h.kp i x _ e f).trans (d.kp i _ z f g)⟩
def Am5 {js:List (Nat×ai)} {i b:Nat} {x y:ai} (d:js[i]?=some (b,x)):(js.set i (b,y)).map Prod.fst=js.map Prod.fst:=by
 rw [Mw];apply Ee;intro k;rw [Do];split
 .rename_i a;subst a;obtain ⟨e,c⟩:=Aq.1 d;simp [e,c]
 .rfl
def Bq.de {js:List (Nat×ai)} (h:Bq w T js wr) {i b:Nat} {x y:ai} (d:js[i]?=some (b,x)) (l:Mod (F0 (b,x)) wr w') (f:A9 w' b y) (o:Bu w' y) (g:Gw x y):Bq w T (js.set i (b,y)) w':=by
 have m:∀ k,F0 (b,x) k->({ T with js:=js }:Tv).ay k:=fun k c=>.inr (.inr (.inr (.inr ⟨_,Aj d,c.imp (fun e=>e.symm) id⟩)));refine ⟨h.at_.de (T:={ T with js:=js }) d l f o g,(Am5 d).trans h.aq,fun k c=>?_,h.mod.then l fun k p c=>?_,fun k z q n a=>?_⟩
 .rcases Rp (T:={ T with js:=js }) (j:=(b,y)) d rfl c with c | c
  .exact h.ay k c
  .exact h.ay k (m k (.inr (g.pb k c)))
 .rcases h.ay k (m k c) with c | c
  .exact c
  .omega
 .rw [Do] at a;split at a
  .rename_i e;subst e;split at a
   .injection a with a;subst a;exact (h.kp i z _ n d).trans g
   .cases a
  .exact h.kp k z q n a
def Tn {b:Nat} {x:ai} (d:A9 w b x) (a:Bu w x) (e:Mod (fun k=>k=b) w w'):Bu w' x:=
 Bb a e fun k f c=>by
  subst c;exact B2 a d (by decide) f
def Oy {b:Nat} {x:ai} (h:Mod (fun k=>k=b) w w'):Mod (F0 (b,x)) w w':=h.mono fun _ _ c=>.inl c
def Bq.get {js:List (Nat×ai)} (h:Bq w T js wr) {i:Nat} {j:Nat×ai} (a:js[i]?=some j):A9 wr j.1 j.2/\N0 wr ({ T with js:=js }:Tv).ay j.2:=⟨h.at_.box j (Aj a),h.at_.ok j (Aj a)⟩
def Bq.r9 {js:List (Nat×ai)} (h:Bq w T js wr) {i b:Nat} {x y:ai} (d:js[i]?=some (b,x)) (e:Mod (fun k=>k=b) wr w') (a:A9 w' b y) (f:Gw x y) (c:y.po=x.po/\y.pn=x.pn/\y.pc=x.pc/\y.pl.parts=x.pl.parts):Bq w T (js.set i (b,y)) w':=by
 obtain ⟨h1,g⟩:=h.get d;refine h.de d (Oy e) a ?_ f;have:=Tn h1 g.parts e;obtain ⟨j,l,m,n⟩:=c;unfold Bu at *;rw [j,l,m,n];exact this
def An.off (h:An w T) {b:Nat} {c:Array Value} {a:TypeId} (d:w.heap[b]?=some (.cells c a (0,0))) (h1:a≠115) (i:a≠119) (k:a≠125) (l:a≠46) (m:a≠65):¬ T.ay b:=fun c=>by
 rcases c with e | e | e | e | ⟨j,g,e | e⟩
 .have:=h.head;rw [<- e,d] at this;injection this with this;injection this with _ this;exact h1 this
 .obtain ⟨n,o,f⟩:=h.cls.aq;rw [<- e,d] at f;injection f with f;cases f
 .exact B2 h.nodes d i.symm e
 .exact B2 h.ab d k.symm e
 .have:=h.box j g;rw [A9,e,d] at this;injection this with this;injection this with _ this;exact l this
 .exact B2 (h.ok j g).parts d m.symm e
def D5.other {S:Nat->Prop} {so:Option Addr} {n b:Nat} {l:List Int} (h:D5 w S so n l) (d:Mod (fun k=>k=b) w w') (g:0<n->∀ k o,so=some ⟨k,o,none⟩->k≠b):D5 w' S so n l:=
 ⟨⟨h.row.len,h.row.max,fun i x f=>by
  obtain ⟨k,a,e,c,j⟩:=h.row.cell i x f;have m:=(Aq.1 f).1;refine ⟨k,a,e,Br c d.size,?_⟩;rw [<- j]
  simp only [World.cell?,d.block k c (g (by have:=h.row.len;omega) k a e)]⟩,h.off⟩
def An.eo (h:An w T) {b:Nat} {c:Array Value} {d:TypeId} (m:w.heap[b]?=some (.cells c d (0,0))) (a:Mod (fun k=>k=b) w w') (q:T.tb<b) (h1:d≠115) (r:d≠119) (s:d≠125) (t:d≠46) (u:d≠65) (v:d≠30)
  (f:∀ j,j∈T.js->(0<j.2.sn->∀ k o,j.2.so=some ⟨k,o,none⟩->k≠b)/\(0<j.2.gn->∀ k o,j.2.go=some ⟨k,o,none⟩->k≠b)):An w' T:=by
 have x:=h.off m h1 r s t u;have i:∀ k,T.ay k->k≠b:=fun k c e=>x (e▸c)
 refine ⟨a.aq h.head (i _ (.inl rfl)),h.cls.mod a (i _ (.inr (.inl rfl))),Bb h.nodes a (fun k e=>i k (.inr (.inr (.inl e)))),Bb h.ab a (fun k e=>i k (.inr (.inr (.inr (.inl e))))),
  Bb h.aw a (fun k e c=>?_),fun j l=>a.aq (h.box j l) (i _ (.inr (.inr (.inr (.inr ⟨j,l,.inl rfl⟩))))),fun j l=>?_,h.one,h.two,?_,h.same⟩
 .subst c;exact B2 h.aw m v.symm e
 .have g:=h.ok j l;obtain ⟨y,z⟩:=f j l;exact ⟨g.after.other a y,g.nu,g.aj.other a z,g.mi,Bb g.parts a (fun k e=>i k (.inr (.inr (.inr (.inr ⟨j,l,.inr e⟩))))),g.user,g.part⟩
 .obtain ⟨w0,f1,n,p⟩:=h.dj.ex;have:=p _ (.inl rfl);exact ⟨⟨w0,f1,n.trans (a.below n.size fun k e=>by omega),p⟩,h.dj.ok⟩
def K9 {so:Option Addr} {n k o:Nat} {l:List Int} (h:Ap w so n l) (h0:0<n) (e:so=some ⟨k,o,none⟩):k<w.heap.size:=by
 obtain ⟨x,c⟩:=h.get (i:=0) h0;obtain ⟨d,b,e',a,_⟩:=h.cell 0 x c;rw [e] at e';cases e';exact a
def Bq.eo {js:List (Nat×ai)} (h:Bq w T js wr) (h0:An w T) {b:Nat} {c:Array Value} {a:TypeId} (s:wr.heap[b]?=some (.cells c a (0,0))) (l:Mod (fun k=>k=b) wr w') (g:w.heap.size<=b) (h1:a≠115) (t:a≠119) (u:a≠125) (v:a≠46) (x:a≠65) (y:a≠30):Bq w T js w':=by
 refine ⟨h.at_.eo s l (Br (Ab h0.head) g) h1 t u v x y fun j z=>?_,h.aq,h.ay,h.mod.then l (fun k f e=>by omega),h.kp⟩;obtain ⟨i,m⟩:=Dr z;have hl:i<T.js.length:=by rw [<- h.len];exact (Aq.1 m).1
 have n:=Am hl;have f:=h.kp i _ j n m;have p:=h0.ok _ (Aj n);refine ⟨fun d k o e=>?_,fun d k o e=>?_⟩
 .rw [f.sn] at d;rw [f.so] at e;have:=K9 p.after.row d e;omega
 .rcases f.aj with ⟨q,r,_⟩ | ⟨q,r,_⟩
  .rw [r] at d;rw [q] at e;have:=K9 p.aj.row d e;omega
  .omega
def M9 (js:List (Nat×ai)) {i b:Nat} {x y:ai} (c:js[i]?=some (b,x)) {f:Jb->Jb} (d:y.pl=f x.pl):(js.set i (b,y)).map (fun j=>j.2.pl)=(js.map fun j=>j.2.pl).modify i f:=by
 apply Ee;intro k;rw [Fe];by_cases e:i=k
 .subst e;obtain ⟨g,a⟩:=Aq.1 c;simp [g,a,d]
 .simp [e]
end Go.Proofs.YtimlcnhcjndijaaGreatDoor
namespace Go.Proofs.YtimlcnhcjndijaaGreatDoor
open Go.RowKit Go.Maps
def An.l8 {w:World} {T:Tv} (h:An w T):∃ so cap,T.jv=.slice so T.js.length cap/\T.js.length<=cap/\T.js.length<=9223372036854775807/\∀ k j,T.js[k]?=some j->∃ g,so=some ⟨g,0,none⟩/\w.cell? ⟨g,k,none⟩=some (.pointer (some ⟨j.1,0,none⟩)):=by
 rcases h.ab.2 with ⟨e,h0⟩ | ⟨g,cap,d,e,_,_,h1,f,_⟩
 .refine ⟨none,0,by rw [e,h0],by omega,by omega,fun k j a=>?_⟩;have:=(Aq.1 a).1;omega
 .refine ⟨some ⟨g,0,none⟩,cap,e,h1,by unfold maxLen at f;omega,fun k j a=>?_⟩;obtain ⟨l,c,_,i,_,b⟩:=h.ll a;rw [e] at b;simp at b;exact ⟨g,rfl,by rw [b.1];exact i⟩
def Y0 (w:World) (bs:List Nat):Nat:=bs.countP fun b=>match w.cell? ⟨b,14,none⟩ with
 | some (.int _ s)=>dx s
 | _=>false
def Ac8 {w:World} {T:Tv} (h:An w T):Y0 w (T.js.map Prod.fst)=Ke T.pl.ab:=by
 unfold Y0 Ke Tv.pl;simp only;rw [List.countP_map,List.countP_map];apply List.countP_congr;intro j a;have b:=Bk (h.box j a) 14 (.int .i64 j.2.pl.lf.st) rfl;simp [b,Jb.waits]
def Ac9 (js:List Jb) (k:Nat):(Gc js k).map Jb.sp=js.map Jb.sp:=by
 unfold Gc;split
 .apply Ee;intro i;simp only [Bx,Fe]
  cases js[i]? with
  | none=>rfl
  | some j=>
   simp only [J1]
   split<;>rfl
 .rfl
def D6 (js:List Jb):Prop:=∀ j,j∈js->∀ id,id∈j.sp.after->1<=id/\id<=(js.length:Int)
def Qa {js a:List Jb} (h:D6 js) (e:a.map Jb.sp=js.map Jb.sp):D6 a:=fun j c d b=>by
 have f:a.length=js.length:=by have:=Ca List.length e;simpa using this
 have:j.sp∈js.map Jb.sp:=e▸Ks c;obtain ⟨g,i,k⟩:=Bd.1 this;rw [f];exact h g i d (by rw [k];exact b)
def Kf (w:World) (T:Tv) (X:List Jb) (e:Ending) (w':World):Prop:=e=.returned (.tuple #[])/\∃ js,Bq w T js w'/\js.map (fun j=>j.2.pl)=X
structure je (w:World) (T:Tv) (js:List (Nat×ai)) (X:List Jb) (wr:World):Prop where
 tab:Bq w T js wr
 pl:js.map (fun j=>j.2.pl)=X
 ju:D6 X
def je.low {w:World} {T:Tv} {js:List (Nat×ai)} {X:List Jb} {wr w':World} (h:je w T js X wr) (a:Below wr.heap.size wr w'):je w T js X w':=⟨h.tab.low a,h.pl,h.ju⟩
def Y1 (v:Value):Nat:=match v with
 | .bool true=>1
 | _=>0
def Vu {w:World} {T:Tv} (h:An w T) (ha:D6 T.pl.ab):Calls Tryz.prog 130 #[.pointer (some ⟨T.tb,0,none⟩)] w (Kf w T (Dw T.pl.ab)):=by
 obtain ⟨so,cap,ad,aU,aN,_⟩:=h.l8;obtain ⟨tb,ht⟩:=Ex (T.tb);obtain ⟨m,hm⟩:=Ex (T.js.length);obtain ⟨X0,u⟩:=Ex (T.pl.ab);have an:je w T T.js X0 w:=⟨Bq.refl h,u.symm,by rw [u];exact ha⟩
 have v:∀ (js:List (Nat×ai)) (X:List Jb) (W:World),je w T js X W->W.cell? ⟨tb,4,none⟩=some (.slice so m cap):=fun js X W hW=>by
  rw [ht,Aa hW.tab.at_.head 4,hm,<- ad];rfl
 have row:∀ (js:List (Nat×ai)) (X:List Jb) (W:World),je w T js X W->∀ k,k<m->∃ g j,so=some ⟨g,0,none⟩/\js[k]?=some j/\W.cell? ⟨g,k,none⟩=some (.pointer (some ⟨j.1,0,none⟩)):=fun js X W hW k hk=>by
  have hl:js.length=m:=by rw [hm];exact hW.tab.len
  obtain ⟨j,x⟩:∃ j,js[k]?=some j:=⟨_,Am (by omega)⟩;obtain ⟨aR,aO,e1,_,_,hr⟩:=hW.tab.at_.l8;obtain ⟨g,e2,hc⟩:=hr k j x;have e3:T.jv=.slice aR js.length aO:=e1;rw [ad] at e3;injection e3 with e3 _ _;exact ⟨g,j,e3.trans e2,x,hc⟩
 rw [hm.symm] at aN;rw [<- ht,<- u];replace ⟨h,ha,ad,u,an,v,row,hm⟩:=H8 h ha ad u an v row hm;replace ht:=Hh ht;go_enter Tryz.func130,Tryz.ntmps130;go_wp2;go_loopw [2,4,12] (fun mv _ _ wr=>∃ (mb:Bool) (js:List (Nat×ai)) (X:List Jb),mv=.bool mb/\Hid (je w T js X wr)/\Hid (Dw X0=if mb=true then Dw X else X)) (fun mv _ _ wr=>Y0 wr (T.js.map Prod.fst)+Y1 mv)
 case atStart=>exact ⟨true,T.js,X0,rfl,an.out,rfl⟩
 case round=>
  rename World=>wo
  obtain ⟨mb,js,X,rfl,y,hF⟩:=hrel
  cases mb with
  | false=>
   have ao:Dw X0=X:=hF.out;replace ao:=Hh ao;go_wp2;go_end0;exact ⟨rfl,js,y.out.tab,y.out.pl.trans ao.out.symm⟩
  | true=>
   have c4:=v.out _ _ _ y.out;have z:je w T js (Cm X 0).1 wo:=y.out;replace z:=Hh z;go_wp2;clear c4;go_loopw [2,4,12] (fun mv _ i wr=>∃ (k:Nat) (a:List (Nat×ai)),i=.int .i64 k/\k<=m/\mv=.bool (Cm X k).2/\Hid (je w T a (Cm X k).1 wr)) (fun _ _ i _=>m-(intOf i).toNat)
   case atStart=>exact ⟨0,js,rfl,Av _,rfl,z.out⟩
   case round=>
    obtain ⟨k,a,rfl,hk,rfl,hE⟩:=hrel;by_cases hc:k<m
    .have aS:(k:Int)<m:=(by omega);have aV:(0:Int)<=(k:Int):=(by omega);obtain ⟨g,j,rfl,x,cr⟩:=row.out _ _ _ hE.out k hc;obtain ⟨jb,jx⟩:=j;obtain ⟨Y,hY⟩:=Ex ((Cm X k).1);obtain ⟨q0,al⟩:=Ex ((Cm X k).2);have c:=hE.out;rw [<- hY] at c;obtain ⟨ap,aP⟩:=c.tab.get x;have n:=Amy ap;have av:Y[k]?=some jx.pl:=by rw [<- c.pl];simp [x]
     have s:=Am4 (T:={ T with js:=a }) c.tab.at_ x (fun id aT=>by
      have:=c.ju jx.pl (Aj av) id aT;have e:Y.length=a.length:=(by rw [<- c.pl];simp);rw [e] at this
      exact this)
     have aQ:({ T with js:=a }:Tv).pl.ab=Y:=c.pl;rw [aQ] at s;have d:Gb Y k=(jx.pl.waits && Rn Y jx.pl):=by unfold Gb;rw [av]
     have l:∀ b,Gb Y k=b->(Cm X (k+1))=(Gc Y k,q0 || b):=fun b q=>by
      show (Gc (Cm X k).1 k,(Cm X k).2 || Gb (Cm X k).1 k)=_;rw [<- hY,<- al,q]
     obtain ⟨qw,aA⟩:=Ex (jx.pl.waits);obtain ⟨ql,aB⟩:=Ex (Rn Y jx.pl);rw [<- aA] at n d;rw [<- aB] at s d;have mv:=fun (W:World) (hW:A9 W jb jx)=>R0 hW 7 (by omega);rw [show ({ T with js:=a }:Tv).tb=tb from ht.out.symm] at s;rw [<- al];clear av aQ;replace ⟨hE,c,x,ap,aP,n,s,d⟩:=H8 hE c x ap aP n s d;replace ⟨l,aA,aB,mv,hY,al,hF,y⟩:=H8 l aA aB mv hY al hF y;replace z:=Hh z;go_wp2_with fail;refine n.out.mono ?_;rintro e w1 ⟨rfl,rfl⟩
     cases qw with
     | false=>
      have q:Gb Y k=false:=(by rw [d.out];rfl);have h1:=l.out false q;have hR:je w T a (Cm X (k+1)).1 w1:=(by rw [h1,Vt q];exact c.out);have hq:(Cm X (k+1)).2=q0:=(by rw [h1];simp);replace ⟨q,h1,hR,hq⟩:=H4 q h1 hR hq;go_wp2;go_roundw
      case rel=>exact ⟨k+1,a,by go_num,by omega,by rw [hq.out],hR.out⟩
      case measure=>simp [intOf];omega
     | true=>
      go_wp2_with fail;refine s.out.mono ?_;rintro e w2 ⟨rfl,ac⟩;have o:=c.out.low ac;have p:=(o.tab.get x.out).1
      cases ql with
      | false=>
       have q:Gb Y k=false:=(by rw [d.out];rfl);have h1:=l.out false q;have hR:je w T a (Cm X (k+1)).1 w2:=(by rw [h1,Vt q];exact o);have hq:(Cm X (k+1)).2=q0:=(by rw [h1];simp);replace ⟨q,h1,hR,hq,ac,o,p⟩:=H7 q h1 hR hq ac o p;go_wp2;go_roundw
       case rel=>exact ⟨k+1,a,by go_num,by omega,by rw [hq.out],hR.out⟩
       case measure=>simp [intOf];omega
      | true=>
       have q:Gb Y k=true:=(by rw [d.out];rfl);have h1:=l.out true q;have aC:=mv.out _ p;replace ⟨q,h1,ac,o,p,aC⟩:=H6 q h1 ac o p aC;go_wp2_with fail;refine aC.out.mono ?_;rintro e w3 ⟨rfl,aD,aE⟩;have aF:=Vo aD;replace ⟨aD,aE,aF⟩:=H3 aD aE aF;go_wp2_with fail;refine aF.out.mono ?_;rintro e w4 ⟨rfl,aG,aH⟩
       have aI:=
        o.out.tab.r9 x.out (aE.out.trans aH) aG ((Vr _ _).trans (Vs _)) ⟨rfl,rfl,rfl,rfl⟩
       have aJ:(a.set k (jb,(jx.az (Ay jx.pl.lf 7).1).bare)).map (fun j=>j.2.pl)=Gc Y k:=(by rw [M9 a x.out (f:=fun j=>(j.move 7).bare) rfl,o.out.pl];unfold Gc;rw [Ad q.out]);have hR:je w T (a.set k (jb,(jx.az (Ay jx.pl.lf 7).1).bare)) (Cm X (k+1)).1 w4:=(by rw [h1.out];exact ⟨aI,aJ,Qa o.out.ju (Ac9 _ _)⟩);have hq:(Cm X (k+1)).2=true:=(by rw [h1.out];simp);replace ⟨aG,aH,aI,aJ,hR,hq⟩:=H6 aG aH aI aJ hR hq;go_wp2;go_roundw
       case rel=>exact ⟨k+1,_,by go_num,by omega,by rw [hq.out],hR.out⟩
       case measure=>simp [intOf];omega
    .have aS:¬ (k:Int)<m:=(by omega);have aK:k=m:=by omega
     have aL:X.length=m:=by
      have:=y.out.tab.len;have e:X.length=js.length:=(by rw [<- y.out.pl];simp);rw [e,this,hm.out]
     have e1:Cm X k=Cf X:=(by unfold Cf;rw [aL,aK]);rw [e1] at hE;rw [e1];have n:=Ac8 y.out.tab.at_;have am:=Ac8 hE.out.tab.at_;have b1:({ T with js:=js }:Tv).js.map Prod.fst=T.js.map Prod.fst:=y.out.tab.aq;have b2:({ T with js:=a }:Tv).js.map Prod.fst=T.js.map Prod.fst:=hE.out.tab.aq;rw [b1,show ({ T with js:=js }:Tv).pl.ab=X from y.out.pl] at n;rw [b2,show ({ T with js:=a }:Tv).pl.ab=(Cf X).1 from hE.out.pl] at am;have aM:Dw X0=Dw X:=hF.out;have r:=Anc X;obtain ⟨qp,t⟩:=Ex ((Cf X).2);rw [<- t] at r ⊢;replace ⟨n,am,aM,r,t,e1,aK,aL⟩:=H8 n am aM r t e1 aK aL;replace ⟨b1,b2⟩:=H2 b1 b2;go_wp2;go_roundw
     case rel=>
      refine ⟨qp,a,(Cf X).1,rfl,hE.out,?_⟩;show Dw X0=_;rw [aM.out,r.out]
      cases qp with
      | true=>rfl
      | false=>
       show X=(Cf X).1;exact (Yy t.out.symm).symm
     case measure=>
      rw [n.out,am.out]
      cases qp with
      | true=>
       have:=Yx t.out.symm;simp [Y1];omega
      | false=>
       rw [Yy t.out.symm];simp [Y1]
def Vv (a:List (Int×Int)) (k:Nat) (b:Int):(Ar Fk a).set (k*2+1) (.int .i64 b)=Ar Fk (a.modify k fun p=>(p.1,b)):=by
 induction a generalizing k with
 | nil=>simp [Ar]
 | cons p l ih=>
  cases k with
  | zero=>simp [Ar]
  | succ k=>
   have e:(k+1)*2+1=(k*2+1)+1+1:=(by omega);have:=ih k;rw [e,Uw];simp only [Ar,S1] at this ⊢;simp only [Pp,Rf,List.set_cons_succ];rw [this]
def Anf (a:List (Int×Int)):(Ar Fk a).length=a.length*2:=by
 induction a with
 | nil=>rfl
 | cons p l ih=>simp [Ar] at ih ⊢;omega
def Ang {w:World} {a pc:Nat} {n:Nat} {d:List (Int×Int)} (h:w.ownsRow 0 65 2 (.slice (some ⟨a,0,none⟩) n pc) n (Ar Fk d)) (k:Nat) (b:Int) :
  (w.setCell ⟨a,k*2+1,none⟩ (.int .i64 b)).ownsRow 0 65 2 (.slice (some ⟨a,0,none⟩) n pc) n (Ar Fk (d.modify k fun p=>(p.1,b))):=by
 refine ⟨by rw [<- Vv,Dg];exact h.1,?_⟩;rcases h.2 with ⟨e,_⟩ | ⟨g,cap,c,e,f,i,h1,j,l,m⟩
 .simp at e
 .simp at e;obtain ⟨rfl,rfl⟩:=e;refine .inr ⟨a,pc,c.setIfInBounds (k*2+1) (.int .i64 b),rfl,f,Al i _ _,h1,j,by simpa using l,?_⟩;rw [<- Vv,<- m];simp [List.take_set]
def ai.bu (x:ai) (p:Jb):ai:={ x with pl:=p }
def Qb {w:World} {x:ai} (h:Bu w x) {k:Nat} (n:k<x.pn):∃ b p,x.po=some ⟨b,0,none⟩/\x.pl.parts[k]?=some p/\w.cell? ⟨b,k*2,none⟩=some (.int .i64 p.1)/\w.cell? ⟨b,k*2+1,none⟩=some (.int .i64 p.2):=by
 have o:=J8 h;obtain ⟨p,c⟩:∃ p,x.pl.parts[k]?=some p:=⟨_,Am (by omega)⟩;rcases h.2 with ⟨_,e⟩ | ⟨g,cap,f,e,_,_,_⟩
 .omega
 .simp at e;have a:=h;unfold Bu at a;rw [e.1,e.2] at a;have i:=Gr a (k*2) (by omega);have l:=Gr a (k*2+1) (by omega);have d:=Iq Ace x.pl.parts (j:=0) c (by omega);have m:=Iq Ace x.pl.parts (j:=1) c (by omega);rw [Nt] at d;exact ⟨g,p,e.1,c,by rw [i,d];rfl,by rw [l,m];rfl⟩
def Vw {w:World} {b:Nat} {x:ai} (hb:A9 w b x) (hp:Bu w x) (k:Nat) (hk:k<x.pn) (pb:Nat) (g:x.po=some ⟨pb,0,none⟩) (d:Int) :
  Calls Tryz.prog 140 #[.pointer (some ⟨b,0,none⟩),.pointer (some ⟨pb,k*2,none⟩),.int .i64 d] w fun e w'=>e=.returned (.tuple #[])/\A9 w' b (x.bu (Fi x.pl k d))/\Bu w' (x.bu (Fi x.pl k d))/\Mod (F0 (b,x)) w w':=by
 have f:x.pb=some pb:=by unfold ai.pb;rw [g];rfl
 have t:pb≠b:=fun e=>B2 hp hb (by decide) (by rw [<- e];exact f);have hl:=J8 hp;obtain ⟨al,p,e,ac,_,c1⟩:=Qb hp hk;rw [g] at e;injection e with e;injection e with e _ _;subst e;obtain ⟨ad,h,_⟩:=C1 hp f;have f1:=Ah h;have u:=hp;unfold Bu at u;rw [g] at u;have v:=Ang u k d;obtain ⟨w1,j⟩:=Ex (w.setCell ⟨pb,k*2+1,none⟩ (.int .i64 d));have y:Mod (fun k=>k=pb) w w1:=by rw [j];exact Mod.setCell _ _ _ _ rfl
 have m:A9 w1 b x:=y.aq hb (fun e=>t e.symm);rw [<- j] at v;have n:Mod (F0 (b,x)) w w1:=y.mono fun i _ e=>.inr (by rw [e];exact f)
 have o:∀ (l:Lf) (W:World),A9 W b (x.az l)->Mod (fun k=>k=b) w1 W->l=P2 d x.pl.lf->A9 W b (x.bu (Fi x.pl k d))/\Bu W (x.bu (Fi x.pl k d))/\Mod (F0 (b,x)) w W:=fun l W hW hm hl=>by
  subst hl;refine ⟨hW,?_,n.trans (Oy hm)⟩
  have:=Bb v hm fun i hi c=>by
   simp [Value.ownBlock] at hi;exact t (hi.trans c)
  unfold Bu;show W.ownsRow 0 65 2 (.slice x.po x.pn x.pc) x.pn _;rw [g];exact this
 have k4:=R0 m 4 (by omega);have k5:=R0 m 5 (by omega);rw [j] at k4 k5
 have hs:P2 d x.pl.lf=if d=2 then (Ay x.pl.lf 4).1 else if d=3 then (Ay x.pl.lf 5).1 else x.pl.lf:=rfl
 have r:=m;have s:=Hh j;clear j h u ac;replace ⟨hb,hp,g,f,t,hl,v,y⟩:=H8 hb hp g f t hl v y;replace ⟨m,n,o,k4,k5,hs,r⟩:=H7 m n o k4 k5 hs r;by_cases q:d=2
 .have d1:(d == (2:Int))=true:=by rw [q];rfl
  have a:P2 d x.pl.lf=(Ay x.pl.lf 4).1:=by rw [hs.out,Ad q]
  replace ⟨q,a⟩:=H2 q a;go_enter Tryz.func140,Tryz.ntmps140;go_wp2_with fail;refine k4.out.mono ?_;rw [<- s.out];rintro e w2 ⟨rfl,h1,h2⟩;replace ⟨h1,h2⟩:=H2 h1 h2;go_wp2;go_end0;exact ⟨rfl,o.out _ _ h1.out h2.out a.out.symm⟩
 .have d1:=Bg.2 q;by_cases z:d=3
  .have d2:(d == (3:Int))=true:=(by rw [z];rfl);have a:P2 d x.pl.lf=(Ay x.pl.lf 5).1:=(by rw [hs.out,Ac q,Ad z]);replace ⟨q,z,a⟩:=H3 q z a;go_enter Tryz.func140,Tryz.ntmps140;go_wp2_with fail;refine k5.out.mono ?_;rw [<- s.out];rintro e w2 ⟨rfl,h1,h2⟩;replace ⟨h1,h2⟩:=H2 h1 h2;go_wp2;go_end0;exact ⟨rfl,o.out _ _ h1.out h2.out a.out.symm⟩
  .have d2:=Bg.2 z;have a:P2 d x.pl.lf=x.pl.lf:=(by rw [hs.out,Ac q,Ac z]);replace ⟨q,z,a⟩:=H3 q z a;go_enter Tryz.func140,Tryz.ntmps140;go_wp2;go_end0;rw [<- s.out];exact ⟨rfl,o.out _ _ r.out (Mod.refl _ _) a.out.symm⟩
structure uj (w:World) (b:Nat) (x:ai) (p:Jb) (wr:World):Prop where
 box:A9 wr b (x.bu p)
 parts:Bu wr (x.bu p)
 mod:Mod (F0 (b,x)) w wr
def Ada {w:World} {b:Nat} {x:ai} (hb:A9 w b x) (hp:Bu w x) (a:Int) :
  Calls Tryz.prog 133 #[.pointer (some ⟨b,0,none⟩),.int .i64 a] w fun e w'=>e=.returned (.tuple #[])/\uj w b x (Fj x.pl a) w':=by
 have hl:=J8 hp;have h0:uj w b x (It x.pl a 0) w:=⟨hb,hp,Mod.refl _ _⟩;have y:=Bk hb 21 (.slice x.po x.pn x.pc) rfl;obtain ⟨po,l⟩:=Ex (x.po);obtain ⟨pn,g⟩:=Ex (x.pn);obtain ⟨pc,n⟩:=Ex (x.pc)
 have an:pn<=9223372036854775807:=by
  rw [g];rcases hp.2 with ⟨_,e2⟩ | ⟨g',ao,ap,e2,_,_,h1,h2,_⟩
  .omega
  .unfold maxLen at h2;omega
 rw [<- l,<- g,<- n] at y;have hJ:Fj x.pl a=It x.pl a pn:=by unfold Fj;rw [hl,g]
 rw [hJ];replace ⟨hb,hp,hl,h0,l,g,n,hJ⟩:=H8 hb hp hl h0 l g n hJ;go_enter Tryz.func133,Tryz.ntmps133;go_wp2;clear y;go_loopw [4,5,11] (fun _ _ i wr=>∃ k:Nat,i=.int .i64 k/\k<=pn/\Hid (uj w b x (It x.pl a k) wr)) (fun _ _ i _=>pn-(intOf i).toNat)
 case atStart=>exact ⟨0,rfl,Av _,h0.out⟩
 case round=>
  obtain ⟨k,rfl,hk,hG⟩:=hrel;by_cases hc:k<pn
  .have am:(k:Int)<pn:=(by omega);have av:(0:Int)<=(k:Int):=(by omega);obtain ⟨j,hj⟩:=Ex (It x.pl a k);obtain ⟨X,o⟩:=Ex (x.bu j);have d:=hG.out;rw [<- hj] at d;have r:Bu wr X:=(by rw [o];exact d.parts);have s:A9 wr b X:=(by rw [o];exact d.box);have ac:k<X.pn:=(by rw [o];show k<x.pn;rw [<- g.out];exact hc);obtain ⟨pb,p,e,ad,c0,c1⟩:=Qb r ac;have e2:po=some ⟨pb,0,none⟩:=(by rw [l.out,<- e,o];rfl);have y:wr.cell? ⟨b,21,none⟩=some (.slice (some ⟨pb,0,none⟩) pn pc):=(by rw [Aa s 21,o];show some (Value.slice x.po x.pn x.pc)=_;rw [<- l.out,<- g.out,<- n.out,e2]);have h:=Vw s r k ac pb e 3;obtain ⟨t,u⟩:=p
   have f:It x.pl a (k+1)=if u=0/\(a<0\/t=a) then Fi j k 3 else j:=by
    show Ov (It x.pl a k) k a=_;rw [<- hj];have al:j.parts[k]?=some (t,u):=(by rw [<- ad,o];rfl);unfold Ov;rw [al]
   have hw:∀ W:World,A9 W b (X.bu (Fi X.pl k 3))/\Bu W (X.bu (Fi X.pl k 3))/\Mod (F0 (b,X)) wr W->u=0/\(a<0\/t=a)->uj w b x (It x.pl a (k+1)) W:=fun W ⟨h1,h2,h3⟩ hq=>by
    rw [f,Ad hq];rw [o] at h1 h2 h3;exact ⟨h1,h2,d.mod.trans h3⟩
   have hn:¬ (u=0/\(a<0\/t=a))->uj w b x (It x.pl a (k+1)) wr:=fun hq=>by
    rw [f,Ac hq];exact d
   clear ad;replace ⟨d,r,s,h,f,hw,hn,e⟩:=H8 d r s h f hw hn e;replace ⟨e2,o,hj,hG⟩:=H4 e2 o hj hG;by_cases q:u=0
   .have d1:(u == (0:Int))=true:=(by rw [q];rfl);by_cases q2:a<0
    .have m:u=0/\(a<0\/t=a):=⟨q,.inl q2⟩;replace ⟨q,m⟩:=H2 q m;go_wp2_with fail;refine h.out.mono ?_;rintro e w2 ⟨rfl,hh⟩;have c:=hw.out _ hh m.out;clear hh;replace c:=Hh c;go_wp2;go_roundw
     case rel=>exact ⟨k+1,by go_num,by omega,c.out⟩
     case measure=>simp [intOf];omega
    .by_cases v:t=a
     .have m:u=0/\(a<0\/t=a):=⟨q,.inr v⟩;have d3:(t == a)=true:=(by rw [v];simp);replace ⟨q,m,v⟩:=H3 q m v;go_wp2_with fail;refine h.out.mono ?_;rintro e w2 ⟨rfl,hh⟩;have c:=hw.out _ hh m.out;clear hh;replace c:=Hh c;go_wp2;go_roundw
      case rel=>exact ⟨k+1,by go_num,by omega,c.out⟩
      case measure=>simp [intOf];omega
     .have d3:=Bg.2 v;have c:=hn.out fun m=>m.2.elim q2 v;replace ⟨q,v,c⟩:=H3 q v c;go_wp2;go_roundw
      case rel=>exact ⟨k+1,by go_num,by omega,c.out⟩
      case measure=>simp [intOf];omega
   .have d1:=Bg.2 q;have c:=hn.out fun m=>q m.1;replace ⟨q,c⟩:=H2 q c;go_wp2;go_roundw
    case rel=>exact ⟨k+1,by go_num,by omega,c.out⟩
    case measure=>simp [intOf];omega
  .have am:¬ (k:Int)<pn:=(by omega);have z:k=pn:=(by omega);have d:=hG.out;rw [z] at d;replace ⟨d,z⟩:=H2 d z;go_wp2;go_end0;exact ⟨rfl,d.out⟩
def Anh:∀ args w,(callFunc 183 args).run Tryz.prog w=.ok (.enter 183 args) w:=Im Tryz.func183 (by decide) (by simp [Tryz.f183])
def Adb {w:World} {x:ai} (h:Bu w x):M8 w x.po x.pn x.pl.parts:=by
 have f:=J8 h;refine ⟨f,?_,fun i p c=>?_⟩
 .rcases h.2 with ⟨_,e⟩ | ⟨g,cap,b,e,_,_,h1,j,_⟩
  .omega
  .unfold maxLen at j;omega
 .have q:=(Aq.1 c).1;obtain ⟨d,r,e,a,l,m⟩:=Qb h (k:=i) (by omega);rw [c] at a;injection a with a;subst a;have n:x.pb=some d:=by unfold ai.pb;rw [e];rfl
  obtain ⟨b,o,_⟩:=C1 h n;exact ⟨d,e,Ab o,l,m⟩
def Bu.low {w w':World} {x:ai} (h:Bu w x) (a:Below w.heap.size w w'):Bu w' x:=Bb (S:=fun _=>False) h (Mod.af a) fun _ _ c=>c
def Ani (x:Int×Int) (w:World):Calls Tryz.prog 183 (#[.agg #[.int .i64 x.1,.int .i64 x.2]]++#[]) w fun e w'=>e=.returned (.bool (decide (x.2=0)))/\Below w.heap.size w w':=by
 have a:Hid (Below w.heap.size w (w.alloc (.cells #[.int .i64 x.1,.int .i64 x.2] 65 (0,0)))):=Hh Bn;by_cases q:x.2=0
 .have d:(x.2 == (0:Int))=true:=by rw [q];rfl
  have b:=Az q;rw [b];replace ⟨q,b⟩:=H2 q b;go_enter Tryz.func183,Tryz.ntmps183;go_wp2;go_ret;exact ⟨rfl,a.out⟩
 .have d:=Bg.2 q;have b:=Aw q;rw [b];replace ⟨q,b⟩:=H2 q b;go_enter Tryz.func183,Tryz.ntmps183;go_wp2;go_ret;exact ⟨rfl,a.out⟩
def Anj {w:World} {x:ai} (h:Bu w x):Calls Tryz.prog 182 #[.slice x.po x.pn x.pc,.func (.func 183) #[] #[]] w fun e w'=>e=.returned (.bool x.pl.open_)/\Below w.heap.size w w':=
 Am1 183 #[] (fun p=>decide (p.2=0)) x.po x.pn x.pc x.pl.parts w (Adb h) Anh fun p _ w1 _=>Ani p w1
def D7 (f:Jb->Jb) (X:List Jb):Nat->List Jb
 | 0=>X
 | n+1=>(D7 f X n).modify n f
def Y2 (f:Jb->Jb) (X:List Jb) (n i:Nat):(D7 f X n)[i]?=if i<n then (X[i]?).map f else X[i]?:=by
 induction n with
 | zero=>simp [D7]
 | succ n ih=>
  show ((D7 f X n).modify n f)[i]?=_;rw [Fe,ih];by_cases h:n=i
  .subst h;simp
  .by_cases b:i<n
   .have a:i<n+1:=(by omega);simp [h,b,a]
   .have a:¬ i<n+1:=(by omega);simp [h,b,a]
def R1 (f:Jb->Jb) (X:List Jb):D7 f X X.length=X.map f:=by
 apply Ee;intro i;rw [Y2,Bx];split
 .rfl
 .have:X[i]?=none:=Q4 (by omega);rw [this];rfl
def Vx (f:Jb->Jb) (a:∀ j,(f j).sp=j.sp) (X:List Jb) (n:Nat):(D7 f X n).map Jb.sp=X.map Jb.sp:=by
 apply Ee;intro i;rw [Bx,Bx,Y2];split
 .rw [Option.map_map];congr 1
  funext j
  exact a j
 .rfl
def Adc (j:Jb):(D4 j).sp=j.sp:=by
 unfold D4;split
 .rfl
 .split<;>rfl
def ai.fh (x:ai):ai:={ x with pl:={ x.pl with parts:=[] },po:=none,pn:=0,pc:=0 }
def Add (x:ai):Gw x x.fh:=⟨rfl,rfl,rfl,rfl,rfl,rfl,.inl ⟨rfl,rfl,rfl,rfl⟩,fun b h=>by cases h⟩
def Ade (w:World) (x:ai):Bu w x.fh:=No _ _ _ _
def Ank {x:ai} {w:World} (h:Bu w x):(x.pn:Int)=0↔x.pl.parts=[]:=by
 have:=J8 h;rw [<- Fw];omega
def Kf.then {w w1:World} {T:Tv} {js:List (Nat×ai)} {X:List Jb} {e:Ending} {w':World} (h:Bq w T js w1) (b:Kf w1 { T with js:=js } X e w'):Kf w T X e w':=by
 obtain ⟨h1,a,c,d⟩:=b;exact ⟨h1,a,h.then c,d⟩
def Y3 {w:World} {T:Tv} (h:An w T) (ha:D6 T.pl.ab):Calls Tryz.prog 134 #[.pointer (some ⟨T.tb,0,none⟩)] w (Kf w T (Is T.pl.ab)):=by
 obtain ⟨so,cap,aI,a4,aV,_⟩:=h.l8;obtain ⟨tb,ht⟩:=Ex (T.tb);obtain ⟨m,hm⟩:=Ex (T.js.length);obtain ⟨x,al⟩:=Ex (T.pl.ab);have aJ:je w T T.js (D7 D4 x 0) w:=⟨Bq.refl h,al.symm,by show D6 x;rw [al];exact ha⟩;have aO:x.length=m:=by rw [al,hm];simp [Tv.pl]
 have av:∀ (js:List (Nat×ai)) (X:List Jb) (W:World),je w T js X W->W.cell? ⟨tb,4,none⟩=some (.slice so m cap):=fun js X W hW=>by
  rw [ht,Aa hW.tab.at_.head 4,hm,<- aI];rfl
 have row:∀ (js:List (Nat×ai)) (X:List Jb) (W:World),je w T js X W->∀ k,k<m->∃ g j,so=some ⟨g,0,none⟩/\js[k]?=some j/\W.cell? ⟨g,k,none⟩=some (.pointer (some ⟨j.1,0,none⟩)):=fun js X W hW k hk=>by
  have hl:js.length=m:=by rw [hm];exact hW.tab.len
  obtain ⟨j,hj⟩:∃ j,js[k]?=some j:=⟨_,Am (by omega)⟩;obtain ⟨aY,aW,e1,_,_,hr⟩:=hW.tab.at_.l8;obtain ⟨g,e2,hc⟩:=hr k j hj;have e3:T.jv=.slice aY js.length aW:=e1;rw [aI] at e3;injection e3 with e3 _ _;exact ⟨g,j,e3.trans e2,hj,hc⟩
 have c4:=av _ _ _ aJ;rw [hm.symm] at aV;rw [<- ht,<- al];replace ⟨h,ha,aI,al,aJ,av,row,hm⟩:=H8 h ha aI al aJ av row hm;replace ⟨ht,aO⟩:=H2 ht aO;go_enter Tryz.func134,Tryz.ntmps134;go_wp2;clear c4;go_loopw [3,10] (fun _ i wr=>∃ (k:Nat) (js:List (Nat×ai)),i=.int .i64 k/\k<=m/\Hid (je w T js (D7 D4 x k) wr)) (fun _ i _=>m-(intOf i).toNat)
 case atStart=>exact ⟨0,T.js,rfl,Av _,aJ.out⟩
 case round=>
  obtain ⟨k,js,rfl,hk,hE⟩:=hrel;by_cases hc:k<m
  .have aZ:(k:Int)<m:=(by omega);have a5:(0:Int)<=(k:Int):=(by omega);obtain ⟨g,j,rfl,hj,cr⟩:=row.out _ _ _ hE.out k hc;obtain ⟨jb,b⟩:=j;obtain ⟨Y,hY⟩:=Ex (D7 D4 x k);have a:=hE.out;rw [<- hY] at a;obtain ⟨aA,am⟩:=a.tab.get hj;have aB:Y[k]?=some b.pl:=(by rw [<- a.pl];simp [hj]);have n:D7 D4 x (k+1)=Y.modify k D4:=(by rw [hY];rfl);have p:D6 (D7 D4 x (k+1)):=Qa a.ju (by rw [Vx _ Adc,hY,Vx _ Adc]);have r:=Ank am.parts;have a0:=Bk aA 21 (.slice b.po b.pn b.pc) rfl;obtain ⟨pn,t⟩:=Ex (b.pn);obtain ⟨po,an⟩:=Ex (b.po);obtain ⟨pc,ao⟩:=Ex (b.pc);rw [<- t,<- an,<- ao] at a0;have z:=Anj am.parts;rw [<- t,<- an,<- ao] at z;have aC:=fun (W:World) (hW:A9 W jb b)=>R0 hW 8 (by omega)
   have s:∀ y,b.pl.parts=[]\/b.pl.open_=true->y=D7 D4 x (k+1)->y=Y:=fun y hy e=>by
    rw [e,n];have e1:D4 b.pl=b.pl:=Ad hy;apply Ee;intro i;rw [Fe];by_cases h:k=i
    .subst h;simp [aB,e1]
    .simp [h]
   by_cases q0:pn=0
   .have d1:((pn:Int) == 0)=true:=(by rw [q0];rfl);have d:je w T js (D7 D4 x (k+1)) wr:=(by rw [s _ (.inl (r.1 (by rw [<- t,q0];rfl))) rfl];exact a);replace ⟨q0,hE,a,hj,aA,am,hY,aB⟩:=H8 q0 hE a hj aA am hY aB;replace ⟨n,p,r,t,an,ao,z,aC⟩:=H8 n p r t an ao z aC;replace ⟨s,d⟩:=H2 s d;go_wp2;go_roundw
    case rel=>exact ⟨k+1,js,by go_num,by omega,d.out⟩
    case measure=>simp [intOf];omega
   .have d1:((pn:Int) == 0)=false:=(by rw [Bg];omega);obtain ⟨q,hq⟩:=Ex (b.pl.open_);rw [<- hq] at z;replace ⟨q0,hE,a,hj,aA,am,hY,aB⟩:=H8 q0 hE a hj aA am hY aB;replace ⟨n,p,r,t,an,ao,z,aC⟩:=H8 n p r t an ao z aC;replace ⟨s,hq⟩:=H2 s hq;go_wp2_with fail;refine z.out.mono ?_;rintro e w1 ⟨rfl,aD⟩;have o:=a.out.low aD;have u:=(o.tab.get hj.out).1
    cases q with
    | true=>
     have d:je w T js (D7 D4 x (k+1)) w1:=(by rw [s.out _ (.inr hq.out.symm) rfl];exact o);replace ⟨aD,o,u,d⟩:=H4 aD o u d;go_wp2;go_roundw
     case rel=>exact ⟨k+1,js,by go_num,by omega,d.out⟩
     case measure=>simp [intOf];omega
    | false=>
     have ad:=aC.out _ u;obtain ⟨l,hl⟩:=Ex ((Ay b.pl.lf 8).1);rw [<- hl] at ad
     have aK:D4 b.pl=if l.st=1 then ⟨b.pl.id,b.pl.sp,l,-1,[],[]⟩ else ⟨b.pl.id,b.pl.sp,l,b.pl.start,b.pl.aj,[]⟩:=by
      have a1:¬ (b.pl.parts=[]\/b.pl.open_=true):=fun c=>by
       rcases c with c | c
       .exact q0.out (by have:=r.out.2 c;rw [t.out];omega)
       .rw [<- hq.out] at c;cases c
      rw [hl];exact Ac a1
     replace ⟨aD,o,u,ad,hl,aK⟩:=H6 aD o u ad hl aK;go_wp2_with fail;refine ad.out.mono ?_;rintro e w2 ⟨rfl,aE,aP⟩;obtain ⟨w3,aF⟩:=Ex (w2.setCell ⟨jb,21,none⟩ (.slice none 0 0));have aG:A9 w3 jb (b.az l).fh:=(by unfold A9;rw [aF,Al aE];simp [ai.fh]);have aL:Kb jb w1 w3:=(by rw [aF];exact aP.trans (Mod.setCell _ _ _ _ rfl));have aX:∃ v,w2.cell? ⟨jb,21,none⟩=some v:=⟨_,Aa aE 21⟩;obtain ⟨a6,aX⟩:=aX;have fz:=Ah aE;have a2:=Bk aG 14 (.int .i64 l.st) rfl;have aM:=Vo aG;rw [aF] at a2 aM;have aN:=Hh aF;clear aF;replace ⟨aE,aP,aG,aL,aM⟩:=H5 aE aP aG aL aM;by_cases q1:l.st=1
     .have d3:=My.2 q1;have ac:D4 b.pl=⟨b.pl.id,b.pl.sp,l,-1,[],[]⟩:=(by rw [aK.out,Ad q1]);replace ⟨q1,ac⟩:=H2 q1 ac;go_wp2_with fail;refine aM.out.mono ?_;rw [<- aN.out];rintro e w4 ⟨rfl,aQ,aR⟩
      have ap:=
       o.out.tab.de hj.out (Oy (aL.out.trans aR)) aQ (Ade _ (b.az l).bare) (((Vr _ _).trans (Add _)).trans (Vs _))
      have d:je w T (js.set k (jb,(b.az l).fh.bare)) (D7 D4 x (k+1)) w4:=(by refine ⟨ap,?_,p.out⟩;rw [M9 js hj.out (f:=D4) (by rw [ac.out];rfl),o.out.pl,n.out]);replace ⟨aQ,aR,ap,d⟩:=H4 aQ aR ap d;go_wp2;go_roundw
      case rel=>exact ⟨k+1,_,by go_num,by omega,d.out⟩
      case measure=>simp [intOf];omega
     .have d3:=Bg.2 q1;have ac:D4 b.pl=⟨b.pl.id,b.pl.sp,l,b.pl.start,b.pl.aj,[]⟩:=by rw [aK.out,Ac q1]
      have ap:=
       o.out.tab.de hj.out (Oy aL.out) aG.out (Ade _ (b.az l)) ((Vr _ _).trans (Add _))
      have d:je w T (js.set k (jb,(b.az l).fh)) (D7 D4 x (k+1)) w3:=(by refine ⟨ap,?_,p.out⟩;rw [M9 js hj.out (f:=D4) (by rw [ac];rfl),o.out.pl,n.out]);rw [aN.out] at d;clear ap;replace ⟨q1,ac,d⟩:=H3 q1 ac d;go_wp2;go_roundw
      case rel=>exact ⟨k+1,_,by go_num,by omega,d.out⟩
      case measure=>simp [intOf];omega
  .have aZ:¬ (k:Int)<m:=(by omega);have aS:k=m:=(by omega);have a:=hE.out;have aH:D7 D4 x k=x.map D4:=(by rw [aS,<- aO.out];exact R1 _ _);rw [aH] at a
   have aT:Calls Tryz.prog 130 #[.pointer (some ⟨tb,0,none⟩)] wr (Kf wr { T with js:=js } (Dw (x.map D4))):=by
    have:=Vu (T:={ T with js:=js }) a.tab.at_ (by
     show D6 (js.map fun j=>j.2.pl)
     rw [a.pl];exact a.ju)
    rw [show ({ T with js:=js }:Tv).pl.ab=x.map D4 from a.pl] at this;rw [ht.out];exact this
   replace ⟨aT,a,aH,aS,hE⟩:=H5 aT a aH aS hE;go_wp2_with fail;refine aT.out.mono ?_;rintro e w2 hp
   have a3:=Kf.then a.out.tab hp
   obtain ⟨rfl,aU⟩:=a3;replace aU:=Hh aU;clear hp;go_wp2;go_end0;exact ⟨rfl,aU.out⟩
def Gg (kind:Int):Int:=if kind=3 then 6 else if kind=4 then 1 else 2
def Adf (k:Int) (w:World):Calls Tryz.prog 101 #[.int .i64 k] w fun e w'=>e=.returned (.int .i64 (Gg k))/\w'=w:=by
 by_cases q:k=3
 .have d:(k == (3:Int))=true:=by rw [q];rfl
  have a:Gg k=6:=Ad q;rw [a];replace ⟨q,a⟩:=H2 q a;go_enter Tryz.func101,Tryz.ntmps101;go_wp2;go_ret;exact ⟨rfl,rfl⟩
 .have d:=Bg.2 q;by_cases b:k=4
  .have c:(k == (4:Int))=true:=(by rw [b];rfl);have a:Gg k=1:=(by unfold Gg;rw [Ac q,Ad b]);rw [a];replace ⟨q,a,b⟩:=H3 q a b;go_enter Tryz.func101,Tryz.ntmps101;go_wp2;go_ret;exact ⟨rfl,rfl⟩
  .have c:=Bg.2 b;have a:Gg k=2:=(by unfold Gg;rw [Ac q,Ac b]);rw [a];replace ⟨q,a,b⟩:=H3 q a b;go_enter Tryz.func101,Tryz.ntmps101;go_wp2;go_ret;exact ⟨rfl,rfl⟩
def Anl {α:Type} {p:α->Bool} {l:List α} {k:Nat} {x:α} (h:∀ i y,i<k->l[i]?=some y->p y=false) (a:l[k]?=some x) (b:p x=true):l.findIdx? p=some k:=by
 obtain ⟨c,e⟩:=Aq.1 a;rw [Xp];refine ⟨c,by rw [e];exact b,fun j d=>?_⟩;have:=h j _ d (Am (by omega));simp [this]
def Anm {α:Type} {p:α->Bool} {l:List α} {n:Nat} (c:l.length=n) (h:∀ i y,i<n->l[i]?=some y->p y=false):l.findIdx? p=none:=by
 rw [List.findIdx?_eq_none_iff];intro x a;obtain ⟨i,b,e⟩:=Q5.1 a;exact h i x (by omega) (by rw [Am b,e])
def Adg (x:ai) (attempt node:Int) (w:World) (e:Ending) (w':World):Prop:=
 w'=w/\((Gd x.pl attempt node=none/\e=.returned (.pointer none))\/∃ k pb,Gd x.pl attempt node=some k/\x.po=some ⟨pb,0,none⟩/\k<x.pn/\e=.returned (.pointer (some ⟨pb,k*2,none⟩)))
def Adh {w:World} {b:Nat} {x:ai} (hb:A9 w b x) (hp:Bu w x) (attempt node:Int):Calls Tryz.prog 102 #[.pointer (some ⟨b,0,none⟩),.int .i64 attempt,.int .i64 node] w (Adg x attempt node w):=by
 have hl:=J8 hp
 have a:Gd x.pl attempt node=if df x.pl.lf.st=true/\x.pl.lf.bm=attempt then x.pl.parts.findIdx? (fun p=>decide (p.1=node) && decide (p.2=0)) else none:=rfl
 have am:=Bk hb 14 (.int .i64 x.pl.lf.st) rfl;have an:=Bk hb 15 (.int .i64 x.pl.lf.bm) rfl;have ao:=Bk hb 21 (.slice x.po x.pn x.pc) rfl;obtain ⟨st,ac⟩:=Ex (x.pl.lf.st);obtain ⟨at_,ad⟩:=Ex (x.pl.lf.bm);obtain ⟨po,s⟩:=Ex (x.po);obtain ⟨pn,f⟩:=Ex (x.pn);obtain ⟨pc,al⟩:=Ex (x.pc);have av:pn<=9223372036854775807:=by rw [f];exact (Adb hp).max
 rw [<- ac] at am a;rw [<- ad] at an a;rw [<- s,<- f,<- al] at ao;have j:=P8 st w;obtain ⟨q,hq⟩:=Ex (df st);rw [<- hq] at j a;replace ⟨hb,hp,hl,ac,ad,s,f,al⟩:=H8 hb hp hl ac ad s f al;replace ⟨j,hq⟩:=H2 j hq
 cases q with
 | false=>
  have d:Gd x.pl attempt node=none:=by rw [a];exact Ac (fun c=>by cases c.1)
  replace ⟨a,d⟩:=H2 a d;go_enter Tryz.func102,Tryz.ntmps102;go_wp2_with fail;refine j.out.mono ?_;rintro e w' ⟨rfl,rfl⟩;go_wp2;go_ret;exact ⟨rfl,.inl ⟨d.out,rfl⟩⟩
 | true=>
  by_cases v:at_=attempt
  .have d1:(at_ != attempt)=false:=(by rw [v];simp);have g:Gd x.pl attempt node=x.pl.parts.findIdx? (fun p=>decide (p.1=node) && decide (p.2=0)):=(by rw [a];exact Ad ⟨rfl,v⟩);replace ⟨a,g,v⟩:=H3 a g v;go_enter Tryz.func102,Tryz.ntmps102;go_wp2_with fail;refine j.out.mono ?_;rintro e w' ⟨rfl,rfl⟩;go_wp2;go_loopw [7,8,30] (fun _ _ i wr=>∃ k:Nat,i=.int .i64 k/\k<=pn/\Hid (∀ i y,i<k->x.pl.parts[i]?=some y->(decide (y.1=node) && decide (y.2=0))=false)/\wr=w') (fun _ _ i _=>pn-(intOf i).toNat)
   case atStart=>exact ⟨0,rfl,Av _,(fun i y h=>by omega),rfl⟩
   case round=>
    obtain ⟨k,rfl,hk,l,rfl⟩:=hrel;by_cases hc:k<pn
    .have ap:(k:Int)<pn:=(by omega);have aA:(0:Int)<=(k:Int):=(by omega);obtain ⟨pb,p,e,t,c0,c1⟩:=Qb hp.out (k:=k) (by rw [<- f.out];exact hc);have z:=s.out;rw [e] at z;obtain ⟨p1,p2⟩:=p;subst z
     have u:(decide (p1=node) && decide (p2=0))=false->∀ i y,i<k+1->x.pl.parts[i]?=some y->(decide (y.1=node) && decide (y.2=0))=false:=fun hf i y hi m=>by
      by_cases c:i=k
      .subst c;rw [t] at m;injection m with m;rw [<- m];exact hf
      .exact l.out i y (by omega) m
     have o:(decide (p1=node) && decide (p2=0))=true->Gd x.pl attempt node=some k:=fun hf=>by
      rw [g.out];exact Anl l.out t hf
     replace ⟨t,u,o,e⟩:=H4 t u o e;by_cases r:p1=node
     .have d2:(p1 == node)=true:=(by rw [r];simp);by_cases q2:p2=0
      .have d3:(p2 == (0:Int))=true:=(by rw [q2];rfl);have m:=o.out (by simp [r,q2]);replace ⟨r,q2,m⟩:=H3 r q2 m;go_wp2;go_ret;exact ⟨rfl,.inr ⟨k,pb,m.out,e.out,by rw [<- f.out];exact hc,rfl⟩⟩
      .have d3:=Bg.2 q2;have hn:=u.out (by simp [q2]);replace ⟨r,q2,hn⟩:=H3 r q2 hn;go_wp2;go_roundw
       case rel=>exact ⟨k+1,by go_num,by omega,hn.out,trivial⟩
       case measure=>simp [intOf];omega
     .have d2:=Bg.2 r;have hn:=u.out (by simp [r]);replace ⟨r,hn⟩:=H2 r hn;go_wp2;go_roundw
      case rel=>exact ⟨k+1,by go_num,by omega,hn.out,trivial⟩
      case measure=>simp [intOf];omega
    .have ap:¬ (k:Int)<pn:=by omega
     have d:Gd x.pl attempt node=none:=by rw [g.out];exact Anm (n:=pn) (by rw [hl.out,f.out]) fun i y hi m=>l.out i y (by omega) m
     replace d:=Hh d;go_wp2;go_ret;exact ⟨rfl,.inl ⟨d.out,rfl⟩⟩
  .have d1:(at_ != attempt)=true:=(by rw [Fg];exact v);have d:Gd x.pl attempt node=none:=(by rw [a];exact Ac (fun c=>v c.2));replace ⟨a,d,v⟩:=H3 a d v;go_enter Tryz.func102,Tryz.ntmps102;go_wp2_with fail;refine j.out.mono ?_;rintro e w' ⟨rfl,rfl⟩;go_wp2;go_ret;exact ⟨rfl,.inl ⟨d.out,rfl⟩⟩
variable {w w':World} {T:Tv}
def An.j6 (h:An w T) {j:Nat×ai} (d:j∈T.js) {b:Nat} {c:Array Value} {a:TypeId} (f:w.heap[b]?=some (.cells c a (0,0))) (h1:a≠46):j.1≠b:=fun e=>by
 have:=h.box j d;rw [A9,e,f] at this;injection this with this;injection this with _ this;exact h1 this
def An.ei (h:An w T) {b:Nat} {c:Array Value} {d:TypeId} (f:w.heap[b]?=some (.cells c d (0,0))):T.mb≠b:=fun e=>by
 obtain ⟨g,i,a⟩:=h.cls.aq;rw [e,f] at a;injection a with a;cases a
def An.nh (h:An w T) (e t:Int) (a:Mod (fun k=>k=T.tb) w w') (g:w'.heap[T.tb]?=some (.cells #[.int .i64 e,.int .i64 t,.map (some T.mb),T.nv,T.jv,.pointer (some ⟨T.fb,0,none⟩),T.cv] 115 (0,0))):An w' { T with ah:=e,tick:=t }:=by
 have i:T.ay T.tb:=.inl rfl
 have b:Mod T.ay w w':=a.mono fun k _ e=>by rw [e];exact i
 refine ⟨g,h.cls.mod a (h.ei h.head),Bb h.nodes a (fun k e c=>B2 h.nodes h.head (by decide) (by rw [<- c];exact e)),Bb h.ab a (fun k e c=>B2 h.ab h.head (by decide) (by rw [<- c];exact e)),
  Bb h.aw a (fun k e c=>B2 h.aw h.head (by decide) (by rw [<- c];exact e)),fun j d=>a.aq (h.box j d) (h.j6 d h.head (by decide)),fun j d=>?_,h.one,h.two,h.dj.mod b (fun _ c=>.inl c),h.same⟩
 have f:=h.ok j d;exact f.mod b (fun _ _ c=>c) (Bb f.parts a (fun k e c=>B2 f.parts h.head (by decide) (by rw [<- c];exact e)))
def An.pj (h:An w T) (g:List Er) (s:g.length=T.nodes.length) (d:Mod (fun k=>T.nv.ownBlock=some k) w w') (m:w'.ownsRow 0 119 3 T.nv g.length (Ar E3 g)):An w' { T with nodes:=g }:=by
 have f:Mod T.ay w w':=d.mono fun k _ e=>.inr (.inr (.inl e))
 have i:∀ k,T.nv.ownBlock=some k->∃ c,w.heap[k]?=some (.cells c 119 (0,0)):=fun k e=>by
  obtain ⟨c,b,_⟩:=C1 h.nodes e;exact ⟨c,b⟩
 have a:∀ {B size n:Nat} {r:TypeId} {v:Value} {xs:List Value},w.ownsRow B r size v n xs->r≠119->∀ k,v.ownBlock=some k->¬ T.nv.ownBlock=some k:=fun m o k t c=>by
  obtain ⟨p,b⟩:=i k c;exact B2 m b o t
 refine ⟨d.aq h.head (fun c=>?_),h.cls.mod d (fun c=>?_),m,Bb h.ab d (a h.ab (by decide)),Bb h.aw d (a h.aw (by decide)),fun j l=>d.aq (h.box j l) (fun c=>?_),fun j l=>?_,h.one,h.two,h.dj.mod f (fun _ c=>.inl c),s.trans h.same⟩
 .obtain ⟨p,b⟩:=i _ c;have:=h.head;rw [b] at this;injection this with this;injection this with _ this;exact absurd this (by decide)
 .obtain ⟨p,b⟩:=i _ c;exact h.ei b rfl
 .obtain ⟨p,b⟩:=i _ c;exact h.j6 l b (by decide) rfl
 .have q:=h.ok j l;exact q.mod f (fun _ _ c=>c) (Bb q.parts d (a q.parts (by decide)))
def Aru {w:World} {B size n:Nat} {b:TypeId} {g cap:Nat} {xs:List Value} (h:w.ownsRow B b size (.slice (some ⟨g,0,none⟩) n cap) n xs) (o:Nat) (v:Value) :
  (w.setCell ⟨g,o,none⟩ v).ownsRow B b size (.slice (some ⟨g,0,none⟩) n cap) n (xs.set o v):=by
 refine ⟨by rw [Dg];exact h.1,?_⟩;rcases h.2 with ⟨e,_⟩ | ⟨l,c,a,e,d,f,h1,i,j,k⟩
 .simp at e
 .simp at e;obtain ⟨rfl,rfl⟩:=e;refine .inr ⟨g,cap,a.setIfInBounds o v,rfl,d,Al f _ _,h1,i,by simpa using j,?_⟩;rw [<- k];simp [List.take_set]
def Arv (b:List Er) (i j:Nat) (v:Value) (f:Er->Er) (c:j<3) (d:∀ x:Er,(E3 x).toList.set j v=(E3 (f x)).toList):(Ar E3 b).set (i*3+j) v=Ar E3 (b.modify i f):=by
 induction b generalizing i with
 | nil=>simp [Ar]
 | cons p l ih=>
  have a:∀ (q:Er) (m:List Er),Ar E3 (q :: m)=(E3 q).toList++Ar E3 m:=fun q m=>by simp [Ar]
  cases i with
  | zero=>
   rw [List.modify_zero_cons,a,a,<- d p,Nat.zero_mul,D2,List.set_append];rw [Ad (by simpa using c)]
  | succ i=>
   rw [Uw,a,a,<- ih,List.set_append];rw [Ac (by simp;omega)];congr 2;simp;omega
end Go.Proofs.YtimlcnhcjndijaaGreatDoor
namespace Go.Proofs.YtimlcnhcjndijaaGreatDoor
open Go.RowKit Go.Maps
variable {w w1 w':World} {B:Nat}
def C9 {B:Nat} {a w:World} (h:Below B a w) {g o:Nat} {v:Value} (c:B<=g):Below B a (w.setCell ⟨g,o,none⟩ v):=
 ⟨h.os,h.tape,h.output,by have:=h.size;simpa [World.setCell] using this,fun k b=>(Cd _ _ _ _ (fun e=>by simp at e;omega)).trans (h.block k b)⟩
def F5 {n:Int} (h1:-9223372036854775808<=n) (a:n<=9223372036854775807):IntKind.i64.wrap n=n:=by
 simp [IntKind.wrap,IntKind.signed,IntKind.bits];omega
def Ak.nil (w:World) (B:Nat):Ak w B (.slice none 0 0) []:=⟨rfl,.inl ⟨rfl,rfl⟩⟩
def Ak.mod {S:Nat->Prop} {v:Value} {l:List Int} (h:Ak w B v l) (a:Mod S w w') (b:∀ k,v.ownBlock=some k->¬ S k):Ak w' B v l:=⟨Bb h.row a b⟩
def Ak.lt {v:Value} {l:List Int} (h:Ak w B v l):∀ k,v.ownBlock=some k->B<=k/\k<w.heap.size:=fun k a=>h.row.lt k a
def Ak.le {v:Value} {l:List Int} {B':Nat} (h:Ak w B v l) (a:B'<=B):Ak w B' v l:=⟨Joins.ownsRow_le h.row a⟩
def Ak.len {v:Value} {l:List Int} (h:Ak w B v l):∃ so n c,v=.slice so n c/\n=l.length:=by
 rcases h.row.2 with ⟨rfl,h0⟩ | ⟨g,cap,a,rfl,_⟩
 .exact ⟨none,0,0,rfl,h0.symm⟩
 .exact ⟨_,_,_,rfl,rfl⟩
def Ak.cell {g n c:Nat} {l:List Int} (h:Ak w B (.slice (some ⟨g,0,none⟩) n c) l) {i:Nat} {x:Int} (b:l[i]?=some x):w.cell? ⟨g,i,none⟩=some (.int .i64 x):=by
 have j:=(Aq.1 b).1;rcases h.row.2 with ⟨e,_⟩ | ⟨k,cap,a,e,m,d,h1,o,p,f⟩
 .cases e
 .injection e with e1 e2 e3;injection e1 with e1;injection e1 with e1;subst e1
  have:(a.toList.take (l.length*1))[i]?=some (.int .i64 x):=by rw [f];simp [Bs,b]
  rw [Lq,Ad (by omega)] at this;simpa [World.cell?,d] using this
def Ak.num {g n c:Nat} {l:List Int} (h:Ak w B (.slice (some ⟨g,0,none⟩) n c) l):n=l.length:=by
 obtain ⟨so,m,a,e,b⟩:=h.len;injection e with _ e;omega
def Mk {f:Array Oper} {rest:List Oper} {o:Oper} {a:Act} {w:World} {Q:Exit->Act->World->Prop} (r:o.guard=none) (s x:Operand)
  (ho:o.op=.call { callee:=.builtin .append,args:=#[s,x],argTypes:=#[31,31] })
  (B L:Nat) (v:Value) (hs:a.eval s=v) {l:List Int} (i:Ak w B v l) (t:l.length=L) (y:Addr) (c:Nat) (hx:a.eval x=.slice (some y) 1 c) (k:Int) (hk:w.cell? y=some (.int .i64 k)) (hL:L<=1000000000) (hb:B<=w.heap.size)
  (h:∀ g cap w',Ak w' B (.slice (some ⟨g,0,none⟩) (L+1) cap) (l++[k])->w.grownBy w' v.ownBlock->(v.ownBlock=some g\/g=w.heap.size)->wpList Tryz.prog f Q rest (a.put o.dst (.slice (some ⟨g,0,none⟩) (L+1) cap)) w') :
  wpList Tryz.prog f Q (o :: rest) a w:=by
 obtain ⟨i3,z,ac,m,p⟩:=C0 M0;subst t;refine Q6 w r s x 31 ho B 3 i3 _ 1 8 Nm z ac m p rfl (by decide) v l.length (Bs l) hs i.row y 1 c [.int .i64 k] hx rfl ?_ (by simp [Value.oneCell']) (Je (n:=l.length) (by omega)) (by omega) hb ?_
 .intro j u q
  match j,q with
  | 0,q=>
   simp at q;subst q;simpa [Addr.add] using hk
 .intro v' w' b d _ al;obtain ⟨g,cap,rfl⟩:=Joins.ownsRow_form b (by omega);refine h g cap w' ⟨?_⟩ d ?_
  .rw [De];simpa [Bs] using b
  .rcases al with e | e
   .exact .inl e.symm
   .simp [Value.ownBlock] at e;exact .inr e
structure Cx (w:World) (B g cap:Nat) (svs:List Value) (ls:List (List Int)):Prop where
 row:w.ownsRow B 31 1 (.slice (some ⟨g,0,none⟩) ls.length cap) ls.length svs
 each:∀ (i:Nat) (sv:Value) (l:List Int),svs[i]?=some sv->ls[i]?=some l->Ak w B sv l
 two:svs.Pairwise fun a b=>∀ k,a.ownBlock=some k->b.ownBlock≠some k
 rk:ls.length<=cap
variable {g cap:Nat} {svs:List Value} {ls:List (List Int)}
def Cx.len (h:Cx w B g cap svs ls):svs.length=ls.length:=by have:=h.row.1;omega
def Cx.aq (h:Cx w B g cap svs ls):B<=g/\g<w.heap.size/\∃ c,w.heap[g]?=some (.cells c 31 (0,0)):=by
 obtain ⟨c,a,b⟩:=C1 h.row (g:=g) rfl;exact ⟨b,Ab a,c,a⟩
def Cx.get (h:Cx w B g cap svs ls) {i:Nat} (d:i<ls.length):∃ so n c l,svs[i]?=some (.slice so n c)/\ls[i]?=some l/\n=l.length/\w.cell? ⟨g,i,none⟩=some (.slice so n c)/\Ak w B (.slice so n c) l:=by
 have h1:svs[i]?=some (svs[i]'(by rw [h.len];exact d)):=Am _;have b:ls[i]?=some ls[i]:=Am _;have a:=h.each i _ _ h1 b;obtain ⟨so,n,c,e,f⟩:=a.len;rw [e] at h1 a;refine ⟨so,n,c,_,h1,b,f,?_,a⟩;rw [Gr h.row i (by omega),h1]
def Cx.ne (h:Cx w B g cap svs ls) {i:Nat} {a:Value} (b:svs[i]?=some a) {l:List Int} (d:ls[i]?=some l):a.ownBlock≠some g:=by
 obtain ⟨_,_,c,e⟩:=h.aq;exact B2 (h.each i a l b d).row e (by decide)
def Cx.low (h:Cx w B g cap svs ls) (a:Below w.heap.size w w'):Cx w' B g cap svs ls:=
 ⟨Bb h.row (Mod.af (S:=fun _=>False) a) (fun _ _ c=>c),fun i b l h1 d=>(h.each i b l h1 d).mod (Mod.af (S:=fun _=>False) a) (fun _ _ c=>c),h.two,h.rk⟩
def Cx.off {S:Nat->Prop} (h:Cx w B g cap svs ls) (c:Mod S w w') (d:¬ S g) (e:∀ (i:Nat) (a:Value),svs[i]?=some a->∀ k,a.ownBlock=some k->¬ S k):Cx w' B g cap svs ls:=
 ⟨Bb h.row c (fun k b=>by simp [Value.ownBlock] at b;subst b;exact d),fun i a l h1 f=>(h.each i a l h1 f).mod c (fun k b=>e i a h1 k b),h.two,h.rk⟩
def Arw {d:List Value} {i:Nat} {v:Value} (h:d.Pairwise fun a b=>∀ k,a.ownBlock=some k->b.ownBlock≠some k) (n:∀ (j:Nat) (u:Value),d[j]?=some u->j≠i->∀ k,u.ownBlock=some k->v.ownBlock≠some k) :
  (d.set i v).Pairwise fun a b=>∀ k,a.ownBlock=some k->b.ownBlock≠some k:=by
 refine Oj.2 fun a b o p l=>?_;have e:=Am o;have c:=Am p;generalize (d.set i v)[a]=ya at e ⊢;generalize (d.set i v)[b]=yb at c ⊢;rw [Do] at e c;by_cases h1:i=a
 .subst h1;have g:i≠b:=by omega
  rw [Ac g] at c;simp only [Ky] at e;split at e
  .injection e with e;subst e;intro k m f;exact n b yb c (by omega) k f m
  .cases e
 .rw [Ac h1] at e;by_cases g:i=b
  .subst g;simp only [Ky] at c;split at c
   .injection c with c;subst c;intro k m f;exact n a ya e (by omega) k m f
   .cases c
  .rw [Ac g] at c;exact Fl h e c l
def Cx.put (h:Cx w B g cap svs ls) {i:Nat} {v n:Value} {l z:List Int} (r:svs[i]?=some v) (hl:ls[i]?=some l) (hg:w.grownBy w1 v.ownBlock) (ho:Ak w1 B n z) (ha:∀ k,n.ownBlock=some k->v.ownBlock=some k\/k=w.heap.size)
  : Cx (w1.setCell ⟨g,i,none⟩ n) B g cap (svs.set i n) (ls.set i z):=by
 have hm:=Mod.grown hg (fun k f=>f);have s:=h.ne r hl;obtain ⟨ac,ad,c,hc⟩:=h.aq;have p:=Bb h.row hm (fun k f e=>by simp [Value.ownBlock] at f;subst f;exact s e)
 have x:n.ownBlock≠some g:=fun e=>by
  rcases ha g e with e | e
  .exact s e
  .omega
 have t:=(Aq.1 r).1;have o:∀ {u:Value} {m:List Int},Ak w1 B u m->u.ownBlock≠some g->Ak (w1.setCell ⟨g,i,none⟩ n) B u m:=fun b hn=>⟨Bb b.row (Mod.setCell (S:=fun k=>k=g) w1 g i n rfl) (fun k f e=>hn (by rw [f,e]))⟩;refine ⟨?_,?_,?_,?_⟩
 .rw [Dg];exact (p.stored i n).1
 .intro j u m b a;rw [Do] at b a;by_cases q:i=j
  .subst q;simp only [Ky] at b a;split at b
   .injection b with b;subst b;split at a
    .injection a with a;subst a;exact o ho x
    .cases a
   .rename_i hx;exact absurd t hx
  .rw [Ac q] at b a;have hj:=h.each j u m b a;refine o (hj.mod hm fun k f e=>?_) (h.ne b a);rcases Q7 q with d | d
   .exact Fl h.two r b d k e f
   .exact Fl h.two b r d k f e
 .refine Arw h.two fun j u b y k f e=>?_;rcases ha k e with e | e
  .rcases Q7 y with d | d
   .exact Fl h.two b r d k f e
   .exact Fl h.two r b d k e f
  .have:j<ls.length:=by rw [<- h.len];exact (Aq.1 b).1
   have:=((h.each j u _ b (Am this)).lt k f).2;omega
 .rw [Dg];exact h.rk
end Go.Proofs.YtimlcnhcjndijaaGreatDoor
namespace Go.Proofs.YtimlcnhcjndijaaGreatDoor
open Go.RowKit Go.Maps
def Z4 (n:Int) (w:World):Calls Tryz.prog 297 #[.int .i64 n] w fun e w'=>e=.returned (.int .i64 (Es n))/\w'=w:=by
 go_enter Tryz.func297,Tryz.ntmps297;go_wp2;go_ret;exact ⟨Z3 (by simp [Es]),rfl⟩
def O9 (n:Int):0<=Es n/\Es n<=1152921504606846976:=by unfold Es;omega
def Pa (d:Nat) (u v:V4):V4:=⟨if 0<d then Jk u.a v.a else 0,if 1<d then Jk u.b v.b else 0,if 2<d then Jk u.c v.c else 0,if 3<d then Jk u.d v.d else 0⟩
structure qk (w:World) (u v:V4) (d:Nat) (wr:World):Prop where
 low:Below w.heap.size w wr
 b1:wr.heap[w.heap.size]?=some (.cells u.cells 30 (0,0))
 b2:wr.heap[w.heap.size+1]?=some (.cells v.cells 30 (0,0))
 res:wr.heap[w.heap.size+2]?=some (.cells V4.zero.cells 30 (0,0))
 acc:wr.heap[w.heap.size+3]?=some (.cells (Pa d u v).cells 30 (0,0))
def qk.next {w wr w':World} {u v:V4} {d:Nat} (h:qk w u v d wr) (a:Below wr.heap.size wr w'):qk w u v d w':=
 ⟨h.low.trans (a.mono h.low.size),Ae a h.b1 (Ab h.b1),Ae a h.b2 (Ab h.b2),Ae a h.res (Ab h.res),Ae a h.acc (Ab h.acc)⟩
def qk.set {w wr:World} {u v:V4} {d:Nat} (h:qk w u v d wr) (a:d<4):qk w u v (d+1) (wr.setCell ⟨w.heap.size+3,d,none⟩ (.int .i64 (Jk (u.get d) (v.get d)))):=
 ⟨C9 h.low (by omega),(Cd _ _ _ _ (fun e=>by simp at e)).trans h.b1,(Cd _ _ _ _ (fun e=>by simp at e)).trans h.b2,(Cd _ _ _ _ (fun e=>by simp at e)).trans h.res,by
  have e:(Pa d u v).cells.setIfInBounds d (.int .i64 (Jk (u.get d) (v.get d)))=(Pa (d+1) u v).cells:=by rcases (by omega:d=0\/d=1\/d=2\/d=3) with rfl | rfl | rfl | rfl<;>simp [Pa,V4.get]
  rw [<- e];exact Al h.acc _ _⟩
def Ug {w:World} {b:Nat} {v:V4} {T:TypeId} {fr:Nat×Nat} (h:w.heap[b]?=some (.cells v.cells T fr)) {d:Nat} (a:d<4):w.cell? ⟨b,d,none⟩=some (.int .i64 (v.get d)):=by
 rw [Aa h d]
 rcases (by omega:d=0\/d=1\/d=2\/d=3) with rfl | rfl | rfl | rfl<;>rfl
def Asc (u v:V4) {d:Nat} (a:d<4):(Pa d u v).get d=0:=by
 rcases (by omega:d=0\/d=1\/d=2\/d=3) with rfl | rfl | rfl | rfl<;>simp [Pa,V4.get]
def Af6 (u v:V4) (w:World):Calls Tryz.prog 252 #[u.val,v.val] w fun e w'=>e=.returned (Ka u v).val/\Below w.heap.size w w':=by
 obtain ⟨W0,g⟩:=Ex ((((w.alloc (.cells u.cells 30)).alloc (.cells v.cells 30)).alloc (.cells #[.int .i64 0,.int .i64 0,.int .i64 0,.int .i64 0] 30)).alloc (.cells #[.int .i64 0,.int .i64 0,.int .i64 0,.int .i64 0] 30));have h:qk w u v 0 W0:=by rw [g];exact ⟨((Bn.alloc (by simp) _).alloc (by simp;omega) _).alloc (by simp;omega) _,Ai _ (Ai _ (Ai _ (Af _ _))),Ai _ (Ai _ (A2 _ _ (by simp))),Ai _ (A2 _ _ (by simp)),A2 _ _ (by simp)⟩
 replace h:=Hh h;go_enter Tryz.func252,Tryz.ntmps252;go_upto_region 2 with fail;rw [<- g];clear g;go_wp2_with fail;go_loopw [6,7] (fun _ t wr=>∃ (d:Nat),t=.int .i64 d/\d<=4/\Hid (qk w u v d wr)) (fun _ t _=>4-(intOf t).toNat)
 case atStart=>exact ⟨0,rfl,by omega,h⟩
 case round=>
  obtain ⟨d,rfl,ad,b⟩:=hrel;by_cases c:d<4
  .have al:(d:Int)<4:=(by omega);have am:(0:Int)<=(d:Int):=(by omega);obtain ⟨x,p⟩:=Ex (u.get d);obtain ⟨y,q⟩:=Ex (v.get d);have u0:=p▸Ug b.out.b1 c;have v0:=q▸Ug b.out.b2 c;have z0:=(Ug b.out.acc c).trans (by rw [Asc _ _ c]);have fr:=Ah b.out.acc
   have i:∀ n,qk w u v (d+1) ((wr.drewN n).setCell ⟨w.heap.size+3,d,none⟩ (.int .i64 (Jk x y))):=fun n=>by
    rw [p,q];exact (b.out.next (A8 _ wr n)).set c
   have r:=Z4 x;have s:=Z4 y
   have m:∀ W,Calls Tryz.prog 297 #[.int .i64 (IntKind.i64.wrap (Es x+Es y))] W fun e w'=>e=.returned (.int .i64 (Jk x y))/\w'=W:=by rw [F5 (by have:=O9 x;have:=O9 y;omega) (by have:=O9 x;have:=O9 y;omega)];exact Z4 (Es x+Es y)
   obtain ⟨r1,j⟩:=Ex (Es x);obtain ⟨r2,k⟩:=Ex (Es y);obtain ⟨r3,l⟩:=Ex (Jk x y);rw [<- j] at r m;rw [<- k] at s m;rw [<- l] at m i;replace ⟨i,r,s,m,j,k,l,p⟩:=H8 i r s m j k l p;replace q:=Hh q;go_upto_region 5 with fail
   go_region_with (first
    | (go_at_call 297;((with_reducible refine (r.out _).mono ?_);rintro e w1 ⟨rfl,rfl⟩))
    | (go_at_call 297;((with_reducible refine (s.out _).mono ?_);rintro e w1 ⟨rfl,rfl⟩))
    | (go_at_call 297;((with_reducible refine (m.out _).mono ?_);rintro e w1 ⟨rfl,rfl⟩)))
   all_goals
    go_wp2_with fail;go_roundw
    case rel=>exact ⟨d+1,by go_num,by omega,Hh (by first | exact i.out 0 | exact i.out 1 | exact i.out 2 | exact i.out 3)⟩
    case measure=>simp [intOf];omega
  .have ac:d=4:=(by omega);subst ac;obtain ⟨z,o⟩:=Ex (Pa 4 u v);have f:z=Ka u v:=(by rw [o];simp [Pa,Ka]);rw [f] at o;obtain ⟨za,zb,zc,zd⟩:=z;have a:=b.out.acc;rw [<- o,<- f] at a;have u0:=Bk a 0 (.int .i64 za) rfl;have u1:=Bk a 1 (.int .i64 zb) rfl;have u2:=Bk a 2 (.int .i64 zc) rfl;have u3:=Bk a 3 (.int .i64 zd) rfl;have r0:=Bk b.out.res 0 (.int .i64 0) rfl;have r1:=Bk b.out.res 1 (.int .i64 0) rfl;have r2:=Bk b.out.res 2 (.int .i64 0) rfl;have r3:=Bk b.out.res 3 (.int .i64 0) rfl;have fr:=Ah b.out.res;replace ⟨o,f,a⟩:=H3 o f a;go_wp2;refine Ao (v:=V4.val ⟨za,zb,zc,zd⟩) (by simp [results,Tryz.results252,go_sem,r0,r1,r2,r3]) rfl ⟨by rw [<- f.out],?_⟩;exact C9 (C9 (C9 (C9 b.out.low (by omega)) (by omega)) (by omega)) (by omega)
end Go.Proofs.YtimlcnhcjndijaaGreatDoor
