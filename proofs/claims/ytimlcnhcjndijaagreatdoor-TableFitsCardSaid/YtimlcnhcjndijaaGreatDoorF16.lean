/- Parts of a proof. No condition. -/
import Derived.Test.YtimlcnhcjndijaaGreatDoorF12
import Derived.Test.YtimlcnhcjndijaaGreatDoorF14
import Derived.Test.YtimlcnhcjndijaaGreatDoorF15
set_option linter.all false
set_option maxRecDepth 100000
set_option maxHeartbeats 3200000
namespace Go.Proofs.YtimlcnhcjndijaaGreatDoor
open Go renaming World->WD,Value->VL,Calls->CS
open Go.RowKit renaming Below->BW
open Go.Proofs.Tryz
section
open Go.RowKit Go.Maps Go.Lib
structure Mod (S:Nat->Prop) (w w':WD):Prop where
 os:w'.os=w.os
 tape:w'.tape=w.tape
 output:w'.output=w.output
 size:w.heap.size<=w'.heap.size
 block:∀ k,k<w.heap.size->¬ S k->w'.heap[k]?=w.heap[k]?
def Mod.refl (S:Nat->Prop) (w:WD):Mod S w w:=⟨rfl,rfl,rfl,Nat.le_refl _,fun _ _ _=>rfl⟩
def Mod.af {S:Nat->Prop} {w w':WD} (h:BW w.heap.size w w'):Mod S w w':=⟨h.os,h.tape,h.output,h.size,fun k a _=>h.block k a⟩
def Mod.mono {S S':Nat->Prop} {w w':WD} (h:Mod S w w') (d:∀ k,k<w.heap.size->S k->S' k):Mod S' w w':=⟨h.os,h.tape,h.output,h.size,fun k a b=>h.block k a fun c=>b (d k a c)⟩
def Mod.then {S S':Nat->Prop} {w w1 e:WD} (h:Mod S w w1) (a:Mod S' w1 e) (f:∀ k,k<w.heap.size->S' k->S k):Mod S w e:=
 ⟨a.os.trans h.os,a.tape.trans h.tape,a.output.trans h.output,A5 h.size a.size,fun k b d=>
  (a.block k (Bx b h.size) fun c=>d (f k b c)).trans (h.block k b d)⟩
def Mod.trans {S:Nat->Prop} {w w1 a:WD} (h:Mod S w w1) (b:Mod S w1 a):Mod S w a:=h.then b fun _ _ c=>c
def Mod.low {S:Nat->Prop} {w w1 a:WD} (h:Mod S w w1) (b:BW w1.heap.size w1 a):Mod S w a:=h.trans (Mod.af b)
def Mod.setCell {S:Nat->Prop} (w:WD) (b o:Nat) (v:VL) (a:S b):Mod S w (w.setCell ⟨b,o,none⟩ v):=
 ⟨rfl,rfl,rfl,by simp [World.setCell],fun k _ c=>Cm _ _ _ _ (fun e=>c (e▸a))⟩
def Mod.set {S:Nat->Prop} {w w1:WD} (h:Mod S w w1) (b o:Nat) (v:VL) (a:S b):Mod S w (w1.setCell ⟨b,o,none⟩ v):=h.trans (Mod.setCell w1 b o v a)
def Mod.grown {S:Nat->Prop} {w w':WD} {row:Option Nat} (h:w.grownBy w' row) (c:∀ k,row=some k->S k):Mod S w w':=
 ⟨h.os,h.tape,h.output,h.size,fun k a b=>h.block k a fun e=>b (c k e.symm)⟩
def Mod.alloc (S:Nat->Prop) (w:WD) (o:Obj):Mod S w (w.alloc o):=Mod.af Bn
def Mod.drew {S:Nat->Prop} {w w':WD} (h:Mod S w w'):Mod S w w'.drew:=⟨h.os,h.tape,h.output,h.size,h.block⟩
def Mod.below {S:Nat->Prop} {B:Nat} {w w':WD} (h:Mod S w w') (b:B<=w.heap.size) (a:∀ k,S k->B<=k):BW B w w':=
 ⟨h.os,h.tape,h.output,h.size,fun k d=>h.block k (by omega) fun c=>by have:=a k c;omega⟩
def Mod.ar {S:Nat->Prop} {k:Nat} {w w':WD} {o:Obj} (h:Mod S w w') (a:w.heap[k]?=some o) (b:¬ S k):w'.heap[k]?=some o:=(h.block k (Ab a) b).trans a
def A7 {S:Nat->Prop} {w w':WD} {B size n:Nat} {T:TypeId} {v:VL} {xs:List VL} (h:w.ownsRow B T size v n xs) (d:Mod S w w') (f:∀ k,v.ownBlock=some k->¬ S k):w'.ownsRow B T size v n xs:=by
 refine ⟨h.1,?_⟩;rcases h.2 with e | ⟨g,cap,a,rfl,c,b,rest⟩
 .exact .inl e
 .exact .inr ⟨g,cap,a,rfl,c,d.ar b (f g rfl),rest⟩
def Cq {w:WD} {B size n:Nat} {T:TypeId} {v:VL} {xs:List VL} (h:w.ownsRow B T size v n xs) {g:Nat} (b:v.ownBlock=some g):∃ a,w.heap[g]?=some (.cells a T (0,0))/\B<=g:=by
 rcases h.2 with ⟨rfl,_⟩ | ⟨e,cap,a,rfl,d,c,_⟩
 .simp [Value.ownBlock] at b
 .simp [Value.ownBlock] at b;subst b;exact ⟨a,c,d⟩
def Bo {w:WD} {B size n:Nat} {T f:TypeId} {v:VL} {xs:List VL} (h:w.ownsRow B T size v n xs) {b:Nat} {c:Array VL} {fr:Nat×Nat} (a:w.heap[b]?=some (.cells c f fr)) (d:T≠f):v.ownBlock≠some b:=fun e=>by
 obtain ⟨g,i,_⟩:=Cq h e;rw [i] at a;injection a with a;injection a with _ a;exact d a
def An8 {w:WD} {B size n:Nat} {T:TypeId} {v:VL} {xs:List VL} (h:w.ownsRow B T size v n xs) {b:Nat} {f:Array MapEntry} {c:Nat} (a:w.heap[b]?=some (.map f c)):v.ownBlock≠some b:=fun e=>by
 obtain ⟨d,g,_⟩:=Cq h e;rw [g] at a;injection a with a;cases a
structure D7 (w:WD) (S:Nat->Prop) (so:Option Addr) (n:Nat) (l:List Int):Prop where
 row:Ar w so n l
 off:0<n->∀ b o,so=some ⟨b,o,none⟩->¬ S b
def D7.mod {S S':Nat->Prop} {w w':WD} {so:Option Addr} {n:Nat} {l:List Int} (h:D7 w S so n l) (g:Mod S w w') (q:∀ k,k<w.heap.size->S' k->S k):D7 w' S' so n l:=
 ⟨⟨h.row.len,h.row.max,fun i x d=>by
  obtain ⟨b,c,e,a,p⟩:=h.row.cell i x d;have s:=(Ao.1 d).1;refine ⟨b,c,e,Bx a g.size,?_⟩;rw [<- p]
  simp only [World.cell?,g.block b a (h.off (by have:=h.row.len;omega) b c e)]⟩,fun h0 b o e m=>by
  obtain ⟨x,d⟩:=h.row.get (i:=0) h0;obtain ⟨r,j,f,a,_⟩:=h.row.cell 0 x d;rw [e] at f;cases f
  exact h.off h0 b o e (q b a m)⟩
def Aeo (w:WD) (S:Nat->Prop):D7 w S none 0 []:=⟨Wl w,fun h=>absurd h (by omega)⟩
abbrev E1 (p:Int×Int):Array VL:=#[.int .i64 p.1,.int .i64 p.2]
structure aj where
 pl:Jb
 so:Option Addr
 sn:Nat
 sc:Nat
 go:Option Addr
 gn:Nat
 gc:Nat
 po:Option Addr
 pn:Nat
 pc:Nat
abbrev aj.cells (x:aj):Array VL:=#[.int .i64 x.pl.id,.string x.pl.sp.user,.string x.pl.sp.part,.int .i64 x.pl.sp.nodes,.int .i64 x.pl.sp.cq.a,.int .i64 x.pl.sp.cq.b,.int .i64 x.pl.sp.cq.c,.int .i64 x.pl.sp.cq.d,.int .i64 x.pl.sp.wall,.int .i64 x.pl.sp.prio,.int .i64 x.pl.sp.array,.int .i64 x.pl.sp.ae,.bool x.pl.sp.held,.slice x.so x.sn x.sc,.int .i64 x.pl.lf.st,.int .i64 x.pl.lf.bj,.int .i64 x.pl.lf.left,.bool x.pl.lf.wall,.bool x.pl.lf.stop,.int .i64 x.pl.start,.slice x.go x.gn x.gc,.slice x.po x.pn x.pc]
abbrev aj.val (x:aj):VL:=.agg #[.int .i64 x.pl.id,.string x.pl.sp.user,.string x.pl.sp.part,.int .i64 x.pl.sp.nodes,.int .i64 x.pl.sp.cq.a,.int .i64 x.pl.sp.cq.b,.int .i64 x.pl.sp.cq.c,.int .i64 x.pl.sp.cq.d,.int .i64 x.pl.sp.wall,.int .i64 x.pl.sp.prio,.int .i64 x.pl.sp.array,.int .i64 x.pl.sp.ae,.bool x.pl.sp.held,.slice x.so x.sn x.sc,.int .i64 x.pl.lf.st,.int .i64 x.pl.lf.bj,.int .i64 x.pl.lf.left,.bool x.pl.lf.wall,.bool x.pl.lf.stop,.int .i64 x.pl.start,.slice x.go x.gn x.gc,.slice x.po x.pn x.pc]
def aj.pb (x:aj):Option Nat:=(Value.slice x.po x.pn x.pc).ownBlock
def Bb (w:WD) (b:Nat) (x:aj):Prop:=w.heap[b]?=some (.cells x.cells 46 (0,0))
def Bv (w:WD) (x:aj):Prop:=w.ownsRow 0 65 2 (.slice x.po x.pn x.pc) x.pn (Au E1 x.pl.parts)
structure N6 (w:WD) (S:Nat->Prop) (x:aj):Prop where
 after:D7 w S x.so x.sn x.pl.sp.after
 oi:x.sn<=x.sc
 ak:D7 w S x.go x.gn x.pl.ak
 mw:x.gn<=x.gc
 parts:Bv w x
 user:x.pl.sp.user.size<=maxLen
 part:x.pl.sp.part.size<=maxLen
def aj.zero:aj:=⟨⟨0,dn.zero,Lf.zero,0,[],[]⟩,none,0,0,none,0,0,none,0,0⟩
def aj.bh (x:aj) (l:Lf):aj:={ x with pl:={ x.pl with lf:=l } }
def aj.bare (x:aj):aj:={ x with pl:=x.pl.bare,go:=none,gn:=0,gc:=0 }
def Aep (p:Int×Int):(E1 p).size=2:=rfl
def Jt {w:WD} {x:aj} (h:Bv w x):x.pl.parts.length=x.pn:=by
 have:=h.1
 have e:(Au E1 x.pl.parts).length=x.pl.parts.length*2:=by
  induction x.pl.parts with
  | nil=>rfl
  | cons p l ih=>simp [Au] at ih ⊢;omega
 omega
abbrev Eb (x:Fa):Array VL:=#[.bool x.up,.bool x.bq,.int .i64 x.since]
def Ir (c:Cl):VL:=.agg #[.int .i64 c.seq,.int .i64 c.e,.int .i64 c.first,.int .i64 c.last]
structure Tv where
 tb:Nat
 mb:Nat
 nv:VL
 jv:VL
 fb:Nat
 fm:Nat
 fl:Nat
 cv:VL
 ah:Int
 tick:Int
 cls:List (Int×Cl)
 nodes:List Fa
 js:List (Nat×aj)
 vs:List au
def Tv.pl (T:Tv):du:=⟨T.ah,T.tick,T.cls,T.nodes,T.js.map fun j=>j.2.pl⟩
def Tv.aw (T:Tv) (b:Nat):Prop:=b=T.tb\/b=T.mb\/T.nv.ownBlock=some b\/T.jv.ownBlock=some b\/∃ j,j∈T.js/\(j.1=b\/j.2.pb=some b)
def mu (c:Cl):DU:=.agg [.lit (.int .i64 c.seq),.lit (.int .i64 c.e),.lit (.int .i64 c.first),.lit (.int .i64 c.last)]
def F3 (n:Int):Lit:=.int .i64 n
def Cl.zero:Cl:=⟨0,0,0,0⟩
def An9 {c d:Cl} (h:Ir c=Ir d):c=d:=by
 obtain ⟨a1,a2,a3,f⟩:=c;obtain ⟨g,i,j,k⟩:=d;simp [Ir] at h;obtain ⟨h1,a,b,e⟩:=h;subst h1 a b e;rfl
def Aoa {c d:Cl} (h:mu c=mu d):c=d:=by
 obtain ⟨a1,a2,a3,f⟩:=c;obtain ⟨g,i,j,k⟩:=d;simp [mu] at h;obtain ⟨h1,a,b,e⟩:=h;subst h1 a b e;rfl
open Classical in
noncomputable def O8 (v:VL):Option (DU×List MemPlace):=if h:∃ c,v=Ir c then some (mu h.choose,[]) else none
def Aeq (c:Cl):O8 (Ir c)=some (mu c,[]):=by
 unfold O8;have h:∃ d,Ir c=Ir d:=⟨c,rfl⟩;rw [dif_pos h,<- An9 h.choose_spec]
def Aob {v:VL} {z:DU×List MemPlace} (h:O8 v=some z):∃ c,v=Ir c/\z=(mu c,[]):=by
 unfold O8 at h;split at h
 .rename_i a;injection h with h;exact ⟨a.choose,a.choose_spec,h.symm⟩
 .cases h
def Aoc {v:VL} {c:Cl} {a:List MemPlace} (h:O8 v=some (mu c,a)):v=Ir c:=by
 obtain ⟨d,rfl,e⟩:=Aob h;injection e with e _;rw [Aoa e]
def Qd (l:List (Int×Cl)):DU:=.map (l.map fun p=>(F3 p.1,mu p.2))
def Kf (l:List (Int×Cl)) (id:Int):Cl:=((l.find? fun p=>decide (p.1=id)).map Prod.snd).getD Cl.zero
def N7 (x:Int×Cl):List (Int×Cl)->List (Int×Cl)
 | []=>[x]
 | y :: r=>if x.1<y.1 then x :: y :: r else y :: N7 x r
def Is (l:List (Int×Cl)) (id:Int) (c:Cl):List (Int×Cl):=N7 (id,c) (l.filter fun p=>!decide (p.1=id))
def Aod (x:Int×Cl) (l:List (Int×Cl)):DataW.insert (H:=Unit) (F3 x.1,mu x.2) (l.map fun p=>(F3 p.1,mu p.2))=(N7 x l).map fun p=>(F3 p.1,mu p.2):=by
 induction l with
 | nil=>rfl
 | cons y r ih=>
  simp only [Ka,DataW.insert,N7];by_cases h:x.1<y.1
  .have a:(F3 x.1).before (F3 y.1)=true:=(by simp [F3,Lit.before,h]);rw [Ad h,Ad a];rfl
  .have a:(F3 x.1).before (F3 y.1)=false:=(by simp [F3,Lit.before];omega);rw [Ac h,a];simp [ih]
def Aer (a b:Int):(F3 a).sameKey (F3 b)=decide (a=b):=by simp [F3,Lit.sameKey]
def Aoe (l:List (Int×Cl)) (a:Int) (c:Cl):(Qd l).put (F3 a) (mu c)=Qd (Is l a c):=by
 unfold Qd Is;simp only [DataW.put];rw [<- Aod,Zc];simp [Ik,Aer]
def Aof (l:List (Int×Cl)) (a:Int):(Qd l).atKey (F3 a) (mu Cl.zero)=mu (Kf l a):=by
 unfold Qd Kf;simp only [DataW.atKey];rw [List.find?_map];simp only [Ik,Aer]
 cases List.find? (fun p:Int×Cl=>decide (p.1=a)) l<;>rfl
def Aog {w:WD} {P:Program} {k:TypeId} {R:VL->Option (DU×List MemPlace)} {b n:Nat} {l:List (Lit×DU)} (h:w.ownsMap P k R b n (.map l)):w.ownsMap P k R b l.length (.map l):=by
 obtain ⟨d,a,e,F,f,c⟩:=h;refine ⟨d,a,e,F,?_,c⟩;injection c with c;rw [c,length_sorted];simp
def L6 (w:WD) (mb:Nat) (l:List (Int×Cl)):Prop:=w.ownsMap (H:=Unit) prog 3 O8 mb l.length (Qd l)
def L6.ar {w:WD} {c:Nat} {l:List (Int×Cl)} (h:L6 w c l):∃ b d,w.heap[c]?=some (.map b d):=by
 obtain ⟨b,a,e,_⟩:=h;exact ⟨b,a,e⟩
def L6.mod {S:Nat->Prop} {w w':WD} {b:Nat} {l:List (Int×Cl)} (h:L6 w b l) (f:Mod S w w') (g:¬ S b):L6 w' b l:=by
 obtain ⟨c,a,e,F,i,d⟩:=h;exact ⟨c,a,f.ar e g,F,i,d⟩
structure Rx (w:WD) (S:Nat->Prop) (fb fm fl:Nat) (vs:List au):Prop where
 ex:∃ w0,ju w0 fb fm fl vs/\BW w0.heap.size w0 w/\∀ b,S b->w0.heap.size<=b
 ok:Iq vs
def Rx.wh {w:WD} {S:Nat->Prop} {a c b:Nat} {vs:List au} (h:Rx w S a c b vs):ju w a c b vs:=by
 obtain ⟨e,h1,d,_⟩:=h.ex;exact h1.below d
def Rx.mod {S S':Nat->Prop} {w w':WD} {a e d:Nat} {vs:List au} (h:Rx w S a e d vs) (j:Mod S w w') (l:∀ k,S' k->S k\/w.heap.size<=k):Rx w' S' a e d vs:=by
 obtain ⟨n,h1,f,g⟩:=h.ex;have m:=f.size;refine ⟨⟨n,h1,f.trans (j.below m g),fun b i=>?_⟩,h.ok⟩;rcases l b i with c | c
 .exact g b c
 .omega
structure An (w:WD) (T:Tv):Prop where
 head:w.heap[T.tb]?=some (.cells #[.int .i64 T.ah,.int .i64 T.tick,.map (some T.mb),T.nv,T.jv,.pointer (some ⟨T.fb,0,none⟩),T.cv] 115 (0,0))
 cls:L6 w T.mb T.cls
 nodes:w.ownsRow 0 119 3 T.nv T.nodes.length (Au Eb T.nodes)
 ab:w.ownsRow 0 125 1 T.jv T.js.length (T.js.map fun j=>.pointer (some ⟨j.1,0,none⟩))
 ax:w.ownsRow 0 30 4 T.cv T.vs.length (Au V4.cells (T.vs.map au.cap))
 box:∀ j,j∈T.js->Bb w j.1 j.2
 ok:∀ j,j∈T.js->N6 w T.aw j.2
 one:(T.js.map Prod.fst).Nodup
 two:T.js.Pairwise fun x y=>∀ b,x.2.pb=some b->y.2.pb≠some b
 dh:Rx w T.aw T.fb T.fm T.fl T.vs
 same:T.nodes.length=T.vs.length
variable {w w':WD} {T:Tv}
def An.rq (h:An w T) {j:Nat×aj} (e:j∈T.js) {b:Nat} (a:j.2.pb=some b):∃ c,w.heap[b]?=some (.cells c 65 (0,0)):=by
 obtain ⟨c,d,_⟩:=Cq (h.ok j e).parts a;exact ⟨c,d⟩
def An.my (h:An w T) {b:Nat} (c:T.aw b):b<w.heap.size:=by
 rcases c with rfl | rfl | e | e | ⟨j,a,e | e⟩
 .exact Ab h.head
 .exact h.cls.lt
 .exact (Rf h.nodes b e).2
 .exact (Rf h.ab b e).2
 .exact e▸Ab (h.box j a)
 .exact (Rf (h.ok j a).parts b e).2
def N6.mod {S S':Nat->Prop} {x:aj} (h:N6 w S x) (a:Mod S w w') (b:∀ k,k<w.heap.size->S' k->S k) (c:Bv w' x):N6 w' S' x:=
 ⟨h.after.mod a b,h.oi,h.ak.mod a b,h.mw,c,h.user,h.part⟩
def An.low (h:An w T) (e:BW w.heap.size w w'):An w' T:=by
 have a:Mod (fun _=>False) w w':=Mod.af e;have b:Mod T.aw w w':=Mod.af e
 exact ⟨a.ar h.head (fun c=>c),h.cls.mod a (fun c=>c),A7 h.nodes a (fun _ _ c=>c),A7 h.ab a (fun _ _ c=>c),A7 h.ax a (fun _ _ c=>c),
  fun j d=>a.ar (h.box j d) (fun c=>c),fun j d=>(h.ok j d).mod b (fun _ _ c=>c) (A7 (h.ok j d).parts a (fun _ _ c=>c)),h.one,h.two,h.dh.mod b (fun _ c=>.inl c),h.same⟩
def F4 (j:Nat×aj) (b:Nat):Prop:=b=j.1\/j.2.pb=some b
def Tv.bu (T:Tv) (i:Nat) (j:Nat×aj):Tv:={ T with js:=T.js.set i j }
def Ry {i:Nat} {j x:Nat×aj} (d:T.js[i]?=some x) (c:j.1=x.1) {b:Nat} (h:(T.bu i j).aw b):T.aw b\/j.2.pb=some b:=by
 rcases h with e | e | e | e | ⟨k,a,e⟩
 .exact .inl (.inl e)
 .exact .inl (.inr (.inl e))
 .exact .inl (.inr (.inr (.inl e)))
 .exact .inl (.inr (.inr (.inr (.inl e))))
 .rcases U4 a with a | rfl
  .exact .inl (.inr (.inr (.inr (.inr ⟨k,a,e⟩))))
  .rcases e with e | e
   .exact .inl (.inr (.inr (.inr (.inr ⟨x,Ai d,.inl (c.symm.trans e)⟩))))
   .exact .inr e
def Fs {α:Type} {R:α->α->Prop} {l:List α} (h:l.Pairwise R) {i k:Nat} {x y:α} (c:l[i]?=some x) (d:l[k]?=some y) (a:i<k):R x y:=by
 obtain ⟨h1,rfl⟩:=Ao.1 c;obtain ⟨b,rfl⟩:=Ao.1 d;exact Np.1 h i k h1 b a
def An.apart (h:An w T) {i k:Nat} {x y:Nat×aj} (d:T.js[i]?=some x) (f:T.js[k]?=some y) (c:i≠k):x.1≠y.1/\∀ b,x.2.pb=some b->y.2.pb≠some b:=by
 have h1:(T.js.map Prod.fst)[i]?=some x.1:=by simp [d]
 have j:(T.js.map Prod.fst)[k]?=some y.1:=by simp [f]
 rcases Ra c with a | a
 .exact ⟨fun e=>Fs h.one h1 j a e,Fs h.two d f a⟩
 .exact ⟨fun e=>Fs h.one j h1 a e.symm,fun b l g=>Fs h.two f d a b g l⟩
def An.bu (h:An w T) {i:Nat} {x j:Nat×aj} (hx:T.js[i]?=some x) (hb:j.1=x.1) (hm:Mod (F4 x) w w') (am:Bb w' j.1 j.2) (hp:Bv w' j.2)
  (ad:∀ b,j.2.pb=some b->x.2.pb=some b\/w.heap.size<=b)
  (ha:D7 w' (T.bu i j).aw j.2.so j.2.sn j.2.pl.sp.after) (aG:j.2.sn<=j.2.sc) (hg:D7 w' (T.bu i j).aw j.2.go j.2.gn j.2.pl.ak) (aI:j.2.gn<=j.2.gc)
  (hu:j.2.pl.sp.user.size<=maxLen) (aK:j.2.pl.sp.part.size<=maxLen):An w' (T.bu i j):=by
 have u:=Ai hx;have av:=h.box x u;have hJ:∀ b,F4 x b->T.aw b:=fun b c=>.inr (.inr (.inr (.inr ⟨x,u,c.imp (fun e=>e.symm) id⟩)));have an:=hm.mono fun b _ c=>hJ b c
 have ap:∀ k,k<w.heap.size->(T.bu i j).aw k->T.aw k:=fun k d c=>by
  rcases Ry hx hb c with c | c
  .exact c
  .rcases ad k c with c | c
   .exact hJ k (.inr c)
   .omega
 have n1:∀ (o:Obj) (k:Nat),w.heap[k]?=some o->(∀ c fr,o≠.cells c 46 fr)->(∀ c fr,o≠.cells c 65 fr)->¬ F4 x k:=fun o k d h1 h2 c=>by
  rcases c with rfl | c
  .rw [av] at d;injection d with d;exact h1 _ _ d.symm
  .obtain ⟨c',g⟩:=h.rq u c;rw [g] at d;injection d with d;exact h2 _ _ d.symm
 have r:∀ {B size n:Nat} {Ty:TypeId} {v:VL} {xs:List VL},w.ownsRow B Ty size v n xs->Ty≠46->Ty≠65->∀ k,v.ownBlock=some k->¬ F4 x k:=fun hr e1 e2 k d=>by
  obtain ⟨aL,g,_⟩:=Cq hr d;exact n1 _ _ g (fun c fr e=>by injection e with _ e;exact e1 e) (fun c fr e=>by injection e with _ e;exact e2 e)
 obtain ⟨es,cl,ao⟩:=h.cls.ar
 have s:∀ k y,T.js[k]?=some y->k≠i->Bb w' y.1 y.2/\Bv w' y.2:=fun k y q d=>by
  have aA:=h.apart q hx d;have z:=Ai q;refine ⟨hm.ar (h.box y z) fun c=>?_,A7 (h.ok y z).parts hm fun b t c=>?_⟩
  .rcases c with c | c
   .exact aA.1 c
   .obtain ⟨c',g⟩:=h.rq u c;have:=h.box y z;rw [Bb,g] at this;injection this with this;injection this with _ this;exact absurd this (by decide)
  .rcases c with rfl | c
   .obtain ⟨c',g⟩:=h.rq z t;rw [av] at g;injection g with g;injection g with _ g;exact absurd g (by decide)
   .exact aA.2 b t c
 have aD:∀ y,y∈(T.bu i j).js->y=j\/∃ k,T.js[k]?=some y/\k≠i:=fun y q=>by
  obtain ⟨k,d⟩:=Dg q;have f:(T.js.set i j)[k]?=some y:=d;rw [Do] at f;split at f
  .split at f
   .injection f with f;exact .inl f.symm
   .cases f
  .rename_i p;exact .inr ⟨k,f,fun e=>p e.symm⟩
 refine ⟨hm.ar h.head (n1 _ _ h.head (fun c fr e=>by injection e with _ e;exact absurd e (by decide)) (fun c fr e=>by injection e with _ e;exact absurd e (by decide))),
  h.cls.mod hm (n1 _ _ ao (fun c fr e=>by cases e) (fun c fr e=>by cases e)),A7 h.nodes hm (r h.nodes (by decide) (by decide)),?_,A7 h.ax hm (r h.ax (by decide) (by decide)),?_,?_,?_,?_,h.dh.mod an ?_,h.same⟩
 .have e:((T.bu i j).js.map fun j=>Value.pointer (some ⟨j.1,0,none⟩))=T.js.map fun j=>Value.pointer (some ⟨j.1,0,none⟩):=by
   show (T.js.set i j).map _=_;rw [Mv];apply Ea;intro k;rw [Do];split
   .rename_i ac;subst ac;obtain ⟨hl,al⟩:=Ao.1 hx;simp [hl,al,hb]
   .rfl
  have e2:(T.bu i j).js.length=T.js.length:=Dm;rw [e,e2];exact A7 h.ab hm (r h.ab (by decide) (by decide))
 .intro y q;rcases aD y q with rfl | ⟨k,d,p⟩
  .exact am
  .exact (s k y d p).1
 .intro y q;rcases aD y q with rfl | ⟨k,d,p⟩
  .exact ⟨ha,aG,hg,aI,hp,hu,aK⟩
  .exact (h.ok y (Ai d)).mod an ap (s k y d p).2
 .have e:(T.bu i j).js.map Prod.fst=T.js.map Prod.fst:=by
   show (T.js.set i j).map _=_;rw [Mv];apply Ea;intro k;rw [Do];split
   .rename_i ac;subst ac;obtain ⟨hl,al⟩:=Ao.1 hx;simp [hl,al,hb]
   .rfl
  rw [e];exact h.one
 .show (T.js.set i j).Pairwise _
  have aC:∀ k y,T.js[k]?=some y->k≠i->∀ b,(y.2.pb=some b->j.2.pb≠some b):=fun k y q d b aB aJ=>by
   rcases ad b aJ with c | c
   .exact (h.apart q hx d).2 b aB c
   .obtain ⟨c',g⟩:=h.rq (Ai q) aB;have:=Ab g;omega
  refine Np.2 fun a b aF t aH=>?_;have m:=A4 aF;have l:=A4 t;generalize (T.js.set i j)[a]=ya at m ⊢;generalize (T.js.set i j)[b]=yb at l ⊢;rw [Do] at m l;by_cases h1:i=a
  .subst h1;have h2:i≠b:=(by omega);rw [Ac h2] at l;simp only [K0] at m;split at m
   .injection m with m;subst m;exact fun c h1 aE=>aC b yb l (fun e=>h2 e.symm) c aE h1
   .cases m
  .rw [Ac h1] at m;by_cases h2:i=b
   .subst h2;simp only [K0] at l;split at l
    .injection l with l;subst l;exact fun c=>aC a ya m (fun e=>h1 e.symm) c
    .cases l
   .rw [Ac h2] at l;exact Fs h.two m l aH
 .intro k c;rcases Ry hx hb c with c | c
  .exact .inl c
  .rcases ad k c with c | c
   .exact .inl (hJ k (.inr c))
   .exact .inr c
end
section
open Go.RowKit Go.Maps Go.Lib
def Ao8 {w:WD} {b:Nat} {x:aj} (g:Bb w b x):CS prog 180 #[.pointer (some ⟨b,0,none⟩)] w fun e w'=>e=.returned (.bool x.pl.waits)/\w'=w:=by
 have y:=Bk g 14 (.int .i64 x.pl.lf.st) rfl;obtain ⟨s,f⟩:=Ex (x.pl.lf.st);have d:x.pl.waits=ed s:=by rw [f];rfl
 rw [<- f] at y;replace ⟨g,f,d⟩:=H3 g f d;by_cases a:s=1
 .have h:=L0.2 a;have c:ed s=true:=by unfold ed;simp [a]
  replace ⟨a,c⟩:=H2 a c;go_enter func180,ntmps180;go_wp2;go_ret;exact ⟨by rw [d.out,c.out];rfl,rfl⟩
 .have h:=Bl.2 a;by_cases b:s=2
  .have i:=L0.2 b;have c:ed s=true:=(by unfold ed;simp [b]);replace ⟨a,b,c⟩:=H3 a b c;go_enter func180,ntmps180;go_wp2;go_ret;exact ⟨by rw [d.out,c.out];rfl,rfl⟩
  .have i:=Bl.2 b;have c:ed s=false:=(by unfold ed;simp [a,b]);replace ⟨a,b,c⟩:=H3 a b c;go_enter func180,ntmps180;go_wp2;go_ret;exact ⟨by rw [d.out,c.out];rfl,rfl⟩
abbrev Kb (b:Nat) (w w':WD):Prop:=Mod (fun k=>k=b) w w'
def Wq {w:WD} {b:Nat} {x:aj} (c:Bb w b x):CS prog 138 #[.pointer (some ⟨b,0,none⟩)] w fun e w'=>e=.returned (.tuple #[])/\Bb w' b x.bare/\Kb b w w':=by
 have g:∃ v,w.cell? ⟨b,19,none⟩=some v:=⟨_,Aa c 19⟩;have h:∃ v,w.cell? ⟨b,20,none⟩=some v:=⟨_,Aa c 20⟩;obtain ⟨j,g⟩:=g;obtain ⟨l,h⟩:=h;have i:=Af c;have a:=Am (Am c 19 (.int .i64 (-1))) 20 (.slice none 0 0);have d:Bb ((w.setCell ⟨b,19,none⟩ (.int .i64 (-1))).setCell ⟨b,20,none⟩ (.slice none 0 0)) b x.bare:=by unfold Bb;rw [a];simp [aj.bare,Jb.bare]
 have f:Kb b w ((w.setCell ⟨b,19,none⟩ (.int .i64 (-1))).setCell ⟨b,20,none⟩ (.slice none 0 0)):=((Mod.refl (fun k=>k=b) w).set b 19 _ rfl).set b 20 _ rfl;replace ⟨c,a,d,f⟩:=H4 c a d f;go_enter func138,ntmps138;go_wp2;go_end0;exact ⟨rfl,d.out,f.out⟩
def R7 {w:WD} {b:Nat} {x:aj} (g:Bb w b x) (s:Int) (v:1<=s/\s<=8):CS prog 139 #[.pointer (some ⟨b,0,none⟩),.int .i64 s] w fun e w'=>e=.returned (.tuple #[])/\Bb w' b (x.bh (A2 x.pl.lf s).1)/\Kb b w w':=by
 obtain ⟨l,t⟩:=Ex ((A2 x.pl.lf s).1);obtain ⟨er,o⟩:=Ex ((A2 x.pl.lf s).2);have q:=Ae8 x.pl.lf s w v;rw [<- t,<- o] at q;rw [<- t];clear t o;obtain ⟨⟨id,sp,⟨st,u,left,m,j⟩,start,ak,parts⟩,so,sn,sc,go_,gn,gc,po,pn,pc⟩:=x;obtain ⟨p,i,c,f,d⟩:=l;have y:=Bk g 14 (.int .i64 st) rfl;have z:=Bk g 15 (.int .i64 u) rfl;have ac:=Bk g 16 (.int .i64 left) rfl;have ad:=Bk g 17 (.bool m) rfl;have al:=Bk g 18 (.bool j) rfl;replace ⟨q,g⟩:=H2 q g;go_enter func139,ntmps139;go_wp2_with fail;refine q.mono ?_;rintro e w1 ⟨rfl,h⟩;have a:=Ae h g.out (Ab g.out);have f1:=Af a;have am:=Bk a 14 (.int .i64 st) rfl;have an:=Bk a 15 (.int .i64 u) rfl;have ao:=Bk a 16 (.int .i64 left) rfl;have ap:=Bk a 17 (.bool m) rfl;have av:=Bk a 18 (.bool j) rfl;have n:=Am (Am (Am (Am (Am a 14 (.int .i64 p)) 15 (.int .i64 i)) 16 (.int .i64 c)) 17 (.bool f)) 18 (.bool d)
 have r:Kb b w (((((w1.setCell ⟨b,14,none⟩ (.int .i64 p)).setCell ⟨b,15,none⟩ (.int .i64 i)).setCell ⟨b,16,none⟩ (.int .i64 c)).setCell ⟨b,17,none⟩ (.bool f)).setCell ⟨b,18,none⟩ (.bool d)):=
  ((((((Mod.af (S:=fun k=>k=b) h).set b 14 _ rfl).set b 15 _ rfl).set b 16 _ rfl).set b 17 _ rfl).set b 18 _ rfl)
 replace ⟨a,n,r,h⟩:=H4 a n r h;go_wp2;go_end0;refine ⟨rfl,?_,r.out⟩;unfold Bb;rw [n.out];simp [aj.bh]
def Wr {a b:Bool} (h:a=b):Ending.returned (.bool a)=.returned (.bool b):=by rw [h]
def Ae9 (b:Bool) (w:WD) (e:Ending) (w':WD):Prop:=∃ r:Int,e=.returned (.int .i64 r)/\(0<=r↔b=true)/\BW w.heap.size w w'
def Ao9 (F:FuncId) (z:Array VL) (p:Int->Bool) (so:Option Addr) (n c:Nat) (xs:List Int) (w:WD) (h:Ar w so n xs)
  (hF:∀ args w,(callFunc F args).run prog w=.ok (.enter F args) w)
  (H:∀ x,x∈xs->∀ w1,BW w.heap.size w w1->CS prog F (#[.int .i64 x]++z) w1 fun e w2=>e=.returned (.bool (p x))/\BW w1.heap.size w1 w2) :
  CS prog 272 #[.slice so n c,.func (.func F) #[] z] w (Ae9 (xs.any p) w):=by
 have g:=h.len;have ac:=h.max;replace ⟨h,g,H⟩:=H3 h g H;go_enter func272,ntmps272;go_wp2;go_loopw [5,8] (fun _ i wr=>∃ k:Nat,i=.int .i64 k/\k<=n/\Hid (∀ j x,j<k->xs[j]?=some x->p x=false)/\Hid (BW w.heap.size w wr)) (fun _ i _=>n-(intOf i).toNat)
 case atStart=>exact ⟨0,rfl,Aq _,(fun j x h=>by omega),Below.refl _ _⟩
 case round=>
  obtain ⟨k,rfl,hk,l,d⟩:=hrel;by_cases hc:k<n
  .have u:(k:Int)<n:=(by omega);have ad:(0:Int)<=(k:Int):=(by omega);obtain ⟨y,r⟩:=h.get hc;obtain ⟨b,al,rfl,hb,a0⟩:=(h.low d.out).cell k y r;have f:=H y (Ai r) wr d.out;replace ⟨f,r⟩:=H2 f r;obtain ⟨q,t⟩:=Ex (p y);go_wp2_with fail;refine f.mono ?_;rintro e w2 ⟨rfl,m⟩;have a:=d.trans (m.mono d.size);rw [<- t];replace ⟨a,m,t⟩:=H3 a m t
   cases q with
   | true=>
    have o:=Kz.2 ⟨y,Ai r.out,t.symm⟩;replace o:=Hh o;go_wp2;go_ret;exact ⟨k,rfl,⟨fun _=>o.out,fun _=>by omega⟩,a.out⟩
   | false=>
    have v:∀ j x,j<k+1->xs[j]?=some x->p x=false:=fun j x hj e=>by
     by_cases c:j=k
     .subst c;have:=r.out;rw [e] at this;injection this with this;rw [this];exact t.symm
     .exact l.out j x (by omega) e
    replace v:=Hh v;go_wp2;go_roundw
    case rel=>exact ⟨k+1,by go_num,by omega,v.out,a.out⟩
    case measure=>simp [intOf];omega
  .have u:¬ (k:Int)<n:=(by omega);have o:xs.any p=false:=(by rw [Ij];intro c;obtain ⟨x,hx,s⟩:=Kz.1 c;obtain ⟨j,hj,e⟩:=Py.1 hx;have hl:=g.out;rw [l j x (by omega) (by rw [A4 hj,e])] at s;cases s);replace o:=Hh o;go_wp2;go_ret;exact ⟨-1,rfl,⟨fun h=>by omega,fun h=>by rw [o.out] at h;cases h⟩,d.out⟩
def Afa (F:FuncId) (g:Array VL) (p:Int->Bool) (so:Option Addr) (n c:Nat) (xs:List Int) (w:WD) (h:Ar w so n xs)
  (hF:∀ args w,(callFunc F args).run prog w=.ok (.enter F args) w)
  (H:∀ x,x∈xs->∀ w1,BW w.heap.size w w1->CS prog F (#[.int .i64 x]++g) w1 fun e j=>e=.returned (.bool (p x))/\BW w1.heap.size w1 j) :
  CS prog 231 #[.slice so n c,.func (.func F) #[] g] w fun e w'=>e=.returned (.bool (xs.any p))/\BW w.heap.size w w':=by
 have f:=Ao9 F g p so n c xs w h hF H;obtain ⟨q,i⟩:=Ex (xs.any p);rw [<- i] at f;rw [<- i];clear i;replace ⟨f,H,h⟩:=H3 f H h;go_enter func231,ntmps231;go_wp2_with fail;refine f.mono ?_;rintro e j ⟨r,rfl,b,a⟩
 cases q with
 | true=>
  have d:=b.2 rfl;replace ⟨b,a⟩:=H2 b a;go_wp2;go_ret;exact ⟨Wr (by simp),a.out⟩
 | false=>
  have d:¬ (0:Int)<=r:=fun h=>by cases b.1 h
  replace ⟨b,a⟩:=H2 b a;go_wp2;go_ret;exact ⟨Wr (by simpa using d),a.out⟩
structure M9 (w:WD) (so:Option Addr) (n:Nat) (xs:List (Int×Int)):Prop where
 len:xs.length=n
 max:n<=9223372036854775807
 cell:∀ i x,xs[i]?=some x->∃ b,so=some ⟨b,0,none⟩/\b<w.heap.size/\w.cell? ⟨b,i*2,none⟩=some (.int .i64 x.1)/\w.cell? ⟨b,i*2+1,none⟩=some (.int .i64 x.2)
def M9.low {w w':WD} {so:Option Addr} {n:Nat} {xs:List (Int×Int)} (h:M9 w so n xs) (c:BW w.heap.size w w'):M9 w' so n xs:=
 ⟨h.len,h.max,fun i x d=>by
  obtain ⟨b,e,a,h0,h1⟩:=h.cell i x d
  exact ⟨b,e,Bx a c.size,(Ag c a).trans h0,(Ag c a).trans h1⟩⟩
def M9.get {w:WD} {so:Option Addr} {n:Nat} {xs:List (Int×Int)} (h:M9 w so n xs) {i:Nat} (a:i<n):=Ge xs i (by rw [h.len];exact a)
def M9.uk {w:WD} {so:Option Addr} {n:Nat} {xs:List (Int×Int)} (h:M9 w so n xs) {i:Nat} {x:Int×Int} (a:xs[i]?=some x):∃ b,so=some ⟨b,0,none⟩/\w.cell? ⟨b,i*2,none⟩=some (.int .i64 x.1)/\w.cell? ⟨b,i*2+1,none⟩=some (.int .i64 x.2):=by
 obtain ⟨b,e,_,h0,h1⟩:=h.cell i x a;exact ⟨b,e,h0,h1⟩
def Apa (F:FuncId) (z:Array VL) (p:Int×Int->Bool) (so:Option Addr) (n c:Nat) (xs:List (Int×Int)) (w:WD) (h:M9 w so n xs)
  (hF:∀ args w,(callFunc F args).run prog w=.ok (.enter F args) w)
  (H:∀ x,x∈xs->∀ w1,BW w.heap.size w w1->CS prog F (#[.agg #[.int .i64 x.1,.int .i64 x.2]]++z) w1 fun e w2=>e=.returned (.bool (p x))/\BW w1.heap.size w1 w2) :
  CS prog 233 #[.slice so n c,.func (.func F) #[] z] w (Ae9 (xs.any p) w):=by
 have g:=h.len;have ac:=h.max;replace ⟨h,g,H⟩:=H3 h g H;go_enter func233,ntmps233;go_wp2;go_loopw [5,8] (fun _ i wr=>∃ k:Nat,i=.int .i64 k/\k<=n/\Hid (∀ j x,j<k->xs[j]?=some x->p x=false)/\Hid (BW w.heap.size w wr)) (fun _ i _=>n-(intOf i).toNat)
 case atStart=>exact ⟨0,rfl,Aq _,(fun j x h=>by omega),Below.refl _ _⟩
 case round=>
  obtain ⟨k,rfl,hk,l,d⟩:=hrel;by_cases hc:k<n
  .have u:(k:Int)<n:=(by omega);have ad:(0:Int)<=(k:Int):=(by omega);obtain ⟨y,r⟩:=h.get hc;obtain ⟨b,rfl,a0,a1⟩:=(h.low d.out).uk r;have f:=H y (Ai r) wr d.out;replace ⟨f,r⟩:=H2 f r;obtain ⟨q,t⟩:=Ex (p y);go_wp2_with fail;refine f.mono ?_;rintro e w2 ⟨rfl,m⟩;have a:=d.trans (m.mono d.size);rw [<- t];replace ⟨a,m,t⟩:=H3 a m t
   cases q with
   | true=>
    have o:=Kz.2 ⟨y,Ai r.out,t.symm⟩;replace o:=Hh o;go_wp2;go_ret;exact ⟨k,rfl,⟨fun _=>o.out,fun _=>by omega⟩,a.out⟩
   | false=>
    have v:∀ j x,j<k+1->xs[j]?=some x->p x=false:=fun j x hj e=>by
     by_cases c:j=k
     .subst c;have:=r.out;rw [e] at this;injection this with this;rw [this];exact t.symm
     .exact l.out j x (by omega) e
    replace v:=Hh v;go_wp2;go_roundw
    case rel=>exact ⟨k+1,by go_num,by omega,v.out,a.out⟩
    case measure=>simp [intOf];omega
  .have u:¬ (k:Int)<n:=(by omega);have o:xs.any p=false:=(by rw [Ij];intro c;obtain ⟨x,hx,s⟩:=Kz.1 c;obtain ⟨j,hj,e⟩:=Py.1 hx;have hl:=g.out;rw [l j x (by omega) (by rw [A4 hj,e])] at s;cases s);replace o:=Hh o;go_wp2;go_ret;exact ⟨-1,rfl,⟨fun h=>by omega,fun h=>by rw [o.out] at h;cases h⟩,d.out⟩
def Apb (F:FuncId) (g:Array VL) (p:Int×Int->Bool) (so:Option Addr) (n c:Nat) (xs:List (Int×Int)) (w:WD) (h:M9 w so n xs)
  (hF:∀ args w,(callFunc F args).run prog w=.ok (.enter F args) w)
  (H:∀ x,x∈xs->∀ w1,BW w.heap.size w w1->CS prog F (#[.agg #[.int .i64 x.1,.int .i64 x.2]]++g) w1 fun e j=>e=.returned (.bool (p x))/\BW w1.heap.size w1 j) :
  CS prog 182 #[.slice so n c,.func (.func F) #[] g] w fun e w'=>e=.returned (.bool (xs.any p))/\BW w.heap.size w w':=by
 have f:=Apa F g p so n c xs w h hF H;obtain ⟨q,i⟩:=Ex (xs.any p);rw [<- i] at f;rw [<- i];clear i;replace ⟨f,H,h⟩:=H3 f H h;go_enter func182,ntmps182;go_wp2_with fail;refine f.mono ?_;rintro e j ⟨r,rfl,b,a⟩
 cases q with
 | true=>
  have d:=b.2 rfl;replace ⟨b,a⟩:=H2 b a;go_wp2;go_ret;exact ⟨Wr (by simp),a.out⟩
 | false=>
  have d:¬ (0:Int)<=r:=fun h=>by cases b.1 h
  replace ⟨b,a⟩:=H2 b a;go_wp2;go_ret;exact ⟨Wr (by simpa using d),a.out⟩
def An.j6 {w:WD} {T:Tv} (h:An w T) {k:Nat} {j:Nat×aj} (f:T.js[k]?=some j):∃ g cap,w.cell? ⟨T.tb,4,none⟩=some (.slice (some ⟨g,0,none⟩) T.js.length cap)/\w.cell? ⟨g,k,none⟩=some (.pointer (some ⟨j.1,0,none⟩))/\T.js.length<=cap/\T.jv=.slice (some ⟨g,0,none⟩) T.js.length cap:=by
 have n:=(Ao.1 f).1;obtain ⟨g,cap,e⟩:=Joins.ownsRow_form h.ab (by omega);have c:=h.ab;rw [e] at c;have l:=E6 c k (by omega);refine ⟨g,cap,?_,?_,?_,e⟩
 .rw [Aa h.head 4,<- e];rfl
 .rw [l];simp [f]
 .rcases c.2 with ⟨a,_⟩ | ⟨m,d,i,a,_,_,b,_⟩
  .simp at a
  .simp at a;rw [a.2];exact b
def Apc:∀ args w,(callFunc 232 args).run prog w=.ok (.enter 232 args) w:=I4 func232 (by decide) (by simp [f232])
def Ws (s:Int):Bool:=jt s && decide (s≠5)
def Afb {T:Tv} {k:Nat} {j:Nat×aj} (a:T.js[k]?=some j):L4 T.pl.ab ((k:Int)+1)=j.2.pl.lf.st:=by
 unfold L4 Tv.pl;have e:((k:Int)+1-1).toNat=k:=by omega
 rw [e];simp [a]
def Apd {w:WD} {T:Tv} (h:An w T) (r:Nat) (l:w.cell? ⟨r,0,none⟩=some (.pointer (some ⟨T.tb,0,none⟩))) (k:Nat) (v:k<T.js.length) :
  CS prog 232 (#[.int .i64 ((k:Int)+1)]++#[.pointer (some ⟨r,0,none⟩)]) w fun e w'=>e=.returned (.bool (Ws (L4 T.pl.ab ((k:Int)+1))))/\w'=w:=by
 obtain ⟨j,i⟩:=Ge T.js k v;rw [Afb i];obtain ⟨g,cap,t,cj,am,_⟩:=h.j6 i;obtain ⟨tb,z⟩:=Ex (T.tb);obtain ⟨jb,b⟩:=Ex (j.1);obtain ⟨m,x⟩:=Ex (T.js.length);obtain ⟨s,p⟩:=Ex (j.2.pl.lf.st);have cs:w.cell? ⟨j.1,14,none⟩=some (.int .i64 j.2.pl.lf.st):=Aa (h.box j (Ai i)) 14
 have y:m<=9223372036854775807:=by
  rcases h.ab.2 with ⟨_,e2⟩ | ⟨g',u,ac,e2,_,_,h1,h2,_⟩
  .omega
  .unfold maxLen at h2;omega
 rw [<- b,<- p] at cs;rw [<- z] at t l;rw [<- x] at t v;rw [<- b] at cj;rw [<- p];have al:(k:Int)<m:=by omega
 have ad:(0:Int)<=(k:Int):=by omega
 have f:=Aad s w;obtain ⟨o,n⟩:=Ex (jt s);have c:Ws s=(o && decide (s≠5)):=by rw [n];rfl
 rw [<- n] at f;clear z b x p n h i;replace ⟨f,c⟩:=H2 f c;go_enter func232,ntmps232;go_wp2_with fail;refine (f.out).mono ?_;rintro e w' ⟨rfl,rfl⟩
 cases o with
 | false=>
  go_wp2;go_ret;exact ⟨by rw [c.out];rfl,rfl⟩
 | true=>
  by_cases q:s=5
  .have d:(s != (5:Int))=false:=(by rw [q];rfl);have a:decide (s≠5)=false:=(by simp [q]);rw [a] at c;replace ⟨q,a⟩:=H2 q a;go_wp2;go_ret;exact ⟨by rw [c.out];rfl,rfl⟩
  .have d:(s != (5:Int))=true:=(by rw [Fp];exact q);have a:decide (s≠5)=true:=(by simp [q]);rw [a] at c;replace ⟨q,a⟩:=H2 q a;go_wp2;go_ret;exact ⟨by rw [c.out];rfl,rfl⟩
def Ape {w:WD} {T:Tv} (h:An w T) {i:Nat} {j:Nat×aj} (hj:T.js[i]?=some j) (hr:∀ d,d∈j.2.pl.sp.after->1<=d/\d<=(T.js.length:Int)) :
  CS prog 181 #[.pointer (some ⟨T.tb,0,none⟩),.pointer (some ⟨j.1,0,none⟩)] w fun e w'=>e=.returned (.bool (Rv T.pl.ab j.2.pl))/\BW w.heap.size w w':=by
 have f:=Ai hj;have cs:=Bk (h.box j f) 13 (.slice j.2.so j.2.sn j.2.sc) rfl;have ai:=(h.ok j f).after.row;obtain ⟨v,b⟩:=Ex (w.alloc (.cells #[.pointer (some ⟨T.tb,0,none⟩)] 27 (0,0)));have a:BW w.heap.size w v:=by rw [b];exact Bn
 have t:v.cell? ⟨w.heap.size,0,none⟩=some (.pointer (some ⟨T.tb,0,none⟩)):=by rw [b];exact Aa (Ah _ _) 0
 have o:w.heap.size<v.heap.size:=by rw [b];simp
 have g:=(Ag a (Ab (h.box j f))).trans cs
 have l:=Afa 232 #[.pointer (some ⟨w.heap.size,0,none⟩)] (fun d=>Ws (L4 T.pl.ab d)) j.2.so j.2.sn j.2.sc j.2.pl.sp.after v (ai.low a) Apc (fun d y w1 n=>by
  obtain ⟨h1,h2⟩:=hr d y;obtain ⟨k,rfl⟩:∃ k:Nat,d=(k:Int)+1:=⟨(d-1).toNat,by omega⟩
  exact (Apd ((h.low a).low n) w.heap.size ((Ag n o).trans t) k (by omega)).mono fun e w' ⟨he,hw⟩=>⟨he,by rw [hw];exact Below.refl _ _⟩)
 have hz:Rv T.pl.ab j.2.pl=(j.2.pl.sp.after.any fun d=>Ws (L4 T.pl.ab d)):=rfl;rw [<- hz] at l;obtain ⟨q,z⟩:=Ex (Rv T.pl.ab j.2.pl);rw [<- z] at l;rw [<- z];obtain ⟨tb,u⟩:=Ex (T.tb);obtain ⟨jb,m⟩:=Ex (j.1);obtain ⟨so,s⟩:=Ex (j.2.so);obtain ⟨sn,r⟩:=Ex (j.2.sn);obtain ⟨sc,p⟩:=Ex (j.2.sc);rw [<- s,<- r,<- p] at l g;rw [<- m] at g;rw [b,<- u] at l;rw [b,<- u] at a g;rw [<- u,<- m];clear z hz ai cs t o b s r p m u h hj hr f;replace ⟨l,a⟩:=H2 l a;go_enter func181,ntmps181;go_wp2_with fail;refine (l.out).mono ?_;rintro e w' ⟨rfl,x⟩;have c:=a.trans (x.mono a.size);replace ⟨c,x⟩:=H2 c x;go_wp2;go_ret;exact ⟨rfl,c.out⟩
structure G7 (x y:aj):Prop where
 so:y.so=x.so
 sn:y.sn=x.sn
 sc:y.sc=x.sc
 after:y.pl.sp.after=x.pl.sp.after
 user:y.pl.sp.user=x.pl.sp.user
 part:y.pl.sp.part=x.pl.sp.part
 ak:(y.go=x.go/\y.gn=x.gn/\y.gc=x.gc/\y.pl.ak=x.pl.ak)\/(y.go=none/\y.gn=0/\y.pl.ak=[])
 pb:∀ b,y.pb=some b->x.pb=some b
def G7.refl (x:aj):G7 x x:=⟨rfl,rfl,rfl,rfl,rfl,rfl,.inl ⟨rfl,rfl,rfl,rfl⟩,fun _ h=>h⟩
def G7.trans {x y z:aj} (h:G7 x y) (k:G7 y z):G7 x z:=
 ⟨k.so.trans h.so,k.sn.trans h.sn,k.sc.trans h.sc,k.after.trans h.after,k.user.trans h.user,k.part.trans h.part,by
  rcases k.ak with ⟨a,b,c,d⟩ | c
  .rcases h.ak with ⟨f,g,j,i⟩ | ⟨f,g,i⟩
   .exact .inl ⟨a.trans f,b.trans g,c.trans j,d.trans i⟩
   .exact .inr ⟨a.trans f,b.trans g,d.trans i⟩
  .exact .inr c,fun b e=>h.pb b (k.pb b e)⟩
def Wt (x:aj) (l:Lf):G7 x (x.bh l):=⟨rfl,rfl,rfl,rfl,rfl,rfl,.inl ⟨rfl,rfl,rfl,rfl⟩,fun _ h=>h⟩
def Wu (x:aj):G7 x x.bare:=⟨rfl,rfl,rfl,rfl,rfl,rfl,.inr ⟨rfl,rfl,rfl⟩,fun _ h=>h⟩
variable {w w' wr:WD} {T:Tv}
def An.dj (h:An w T) {i b:Nat} {x y:aj} (n:T.js[i]?=some (b,x)) (q:Mod (F4 (b,x)) w w') (l:Bb w' b y) (s:Bv w' y) (d:G7 x y):An w' (T.bu i (b,y)):=by
 have a:=h.ok _ (Ai n)
 have f:∀ k,k<w.heap.size->(T.bu i (b,y)).aw k->T.aw k:=fun k _ c=>by
  rcases Ry (j:=(b,y)) n rfl c with c | c
  .exact c
  .exact .inr (.inr (.inr (.inr ⟨_,Ai n,.inr (d.pb k c)⟩)))
 have m:Mod T.aw w w':=q.mono fun k _ c=>.inr (.inr (.inr (.inr ⟨_,Ai n,c.imp (fun e=>e.symm) id⟩)));refine h.bu n rfl q l s (fun k c=>.inl (d.pb k c)) ?_ ?_ ?_ ?_ ?_ ?_
 .have:=a.after.mod m f;show D7 w' _ y.so y.sn y.pl.sp.after;rw [d.so,d.sn,d.after];exact this
 .show y.sn<=y.sc;rw [d.sn,d.sc];exact a.oi
 .show D7 w' _ y.go y.gn y.pl.ak;rcases d.ak with ⟨o,g,_,p⟩ | ⟨o,g,p⟩
  .rw [o,g,p];exact a.ak.mod m f
  .rw [o,g,p];exact Aeo _ _
 .show y.gn<=y.gc;rcases d.ak with ⟨_,g,r,_⟩ | ⟨_,g,_⟩
  .rw [g,r];exact a.mw
  .rw [g];exact Aq _
 .show y.pl.sp.user.size<=maxLen;rw [d.user];exact a.user
 .show y.pl.sp.part.size<=maxLen;rw [d.part];exact a.part
structure Bq (w:WD) (T:Tv) (js:List (Nat×aj)) (wr:WD):Prop where
 at_:An wr { T with js:=js }
 ar:js.map Prod.fst=T.js.map Prod.fst
 aw:∀ b,({ T with js:=js }:Tv).aw b->T.aw b\/w.heap.size<=b
 mod:Mod T.aw w wr
 kp:∀ (i:Nat) (x y:Nat×aj),T.js[i]?=some x->js[i]?=some y->G7 x.2 y.2
def Bq.refl (h:An w T):Bq w T T.js w:=⟨h,rfl,fun _ c=>.inl c,Mod.refl _ _,fun i x y b a=>by rw [b] at a;injection a with a;rw [a];exact G7.refl _⟩
def Bq.low {js:List (Nat×aj)} (h:Bq w T js wr) (a:BW wr.heap.size wr w'):Bq w T js w':=⟨h.at_.low a,h.ar,h.aw,h.mod.low a,h.kp⟩
def Bq.len {js:List (Nat×aj)} (h:Bq w T js wr):js.length=T.js.length:=by
 have:=Ca List.length h.ar;simpa using this
def Bq.then {js d:List (Nat×aj)} (h:Bq w T js wr) (a:Bq wr { T with js:=js } d w'):Bq w T d w':=
 ⟨a.at_,a.ar.trans h.ar,fun b c=>by
  rcases a.aw b c with c | c
  .exact h.aw b c
  .exact .inr (A5 h.mod.size c),h.mod.then a.mod fun k l c=>by
  rcases h.aw k c with c | c
  .exact c
  .omega,fun i x z e j=>by
  have g:i<js.length:=by rw [h.len];exact (Ao.1 e).1
  have f:=A4 g
  exact (h.kp i x _ e f).trans (a.kp i _ z f j)⟩
def Apf {js:List (Nat×aj)} {i b:Nat} {x y:aj} (e:js[i]?=some (b,x)):(js.set i (b,y)).map Prod.fst=js.map Prod.fst:=by
 rw [Mv];apply Ea;intro k;rw [Do];split
 .rename_i a;subst a;obtain ⟨d,c⟩:=Ao.1 e;simp [d,c]
 .rfl
def Bq.dj {js:List (Nat×aj)} (h:Bq w T js wr) {i b:Nat} {x y:aj} (f:js[i]?=some (b,x)) (m:Mod (F4 (b,x)) wr w') (d:Bb w' b y) (p:Bv w' y) (g:G7 x y):Bq w T (js.set i (b,y)) w':=by
 have l:∀ k,F4 (b,x) k->({ T with js:=js }:Tv).aw k:=fun k c=>.inr (.inr (.inr (.inr ⟨_,Ai f,c.imp (fun e=>e.symm) id⟩)));refine ⟨h.at_.dj (T:={ T with js:=js }) f m d p g,(Apf f).trans h.ar,fun k c=>?_,h.mod.then m fun k o c=>?_,fun k z q n a=>?_⟩
 .rcases Ry (T:={ T with js:=js }) (j:=(b,y)) f rfl c with c | c
  .exact h.aw k c
  .exact h.aw k (l k (.inr (g.pb k c)))
 .rcases h.aw k (l k c) with c | c
  .exact c
  .omega
 .rw [Do] at a;split at a
  .rename_i e;subst e;split at a
   .injection a with a;subst a;exact (h.kp i z _ n f).trans g
   .cases a
  .exact h.kp k z q n a
def Tw {b:Nat} {x:aj} (d:Bb w b x) (a:Bv w x) (f:Mod (fun k=>k=b) w w'):Bv w' x:=
 A7 a f fun k e c=>by
  subst c;exact Bo a d (by decide) e
def Pb {b:Nat} {x:aj} (h:Mod (fun k=>k=b) w w'):Mod (F4 (b,x)) w w':=h.mono fun _ _ c=>.inl c
def Bq.get {js:List (Nat×aj)} (h:Bq w T js wr) {i:Nat} {j:Nat×aj} (a:js[i]?=some j):Bb wr j.1 j.2/\N6 wr ({ T with js:=js }:Tv).aw j.2:=⟨h.at_.box j (Ai a),h.at_.ok j (Ai a)⟩
def Bq.th {js:List (Nat×aj)} (h:Bq w T js wr) {i b:Nat} {x y:aj} (e:js[i]?=some (b,x)) (d:Mod (fun k=>k=b) wr w') (a:Bb w' b y) (n:G7 x y) (c:y.po=x.po/\y.pn=x.pn/\y.pc=x.pc/\y.pl.parts=x.pl.parts):Bq w T (js.set i (b,y)) w':=by
 obtain ⟨h1,m⟩:=h.get e;refine h.dj e (Pb d) a ?_ n;have:=Tw h1 m.parts d;obtain ⟨f,g,j,l⟩:=c;unfold Bv at *;rw [f,g,j,l];exact this
def An.off (h:An w T) {b:Nat} {c:Array VL} {a:TypeId} (d:w.heap[b]?=some (.cells c a (0,0))) (h1:a≠115) (i:a≠119) (k:a≠125) (l:a≠46) (m:a≠65):¬ T.aw b:=fun c=>by
 rcases c with e | e | e | e | ⟨j,g,e | e⟩
 .have:=h.head;rw [<- e,d] at this;injection this with this;injection this with _ this;exact h1 this
 .obtain ⟨o,n,f⟩:=h.cls.ar;rw [<- e,d] at f;injection f with f;cases f
 .exact Bo h.nodes d i.symm e
 .exact Bo h.ab d k.symm e
 .have:=h.box j g;rw [Bb,e,d] at this;injection this with this;injection this with _ this;exact l this
 .exact Bo (h.ok j g).parts d m.symm e
def D7.other {S:Nat->Prop} {so:Option Addr} {n b:Nat} {l:List Int} (h:D7 w S so n l) (d:Mod (fun k=>k=b) w w') (j:0<n->∀ k o,so=some ⟨k,o,none⟩->k≠b):D7 w' S so n l:=
 ⟨⟨h.row.len,h.row.max,fun i x f=>by
  obtain ⟨k,c,e,a,g⟩:=h.row.cell i x f;have m:=(Ao.1 f).1;refine ⟨k,c,e,Bx a d.size,?_⟩;rw [<- g]
  simp only [World.cell?,d.block k a (j (by have:=h.row.len;omega) k c e)]⟩,h.off⟩
def An.fp (h:An w T) {b:Nat} {c:Array VL} {d:TypeId} (p:w.heap[b]?=some (.cells c d (0,0))) (a:Mod (fun k=>k=b) w w') (y:T.tb<b) (h1:d≠115) (r:d≠119) (s:d≠125) (t:d≠46) (u:d≠65) (v:d≠30)
  (f:∀ j,j∈T.js->(0<j.2.sn->∀ k o,j.2.so=some ⟨k,o,none⟩->k≠b)/\(0<j.2.gn->∀ k o,j.2.go=some ⟨k,o,none⟩->k≠b)):An w' T:=by
 have x:=h.off p h1 r s t u;have i:∀ k,T.aw k->k≠b:=fun k c e=>x (e▸c)
 refine ⟨a.ar h.head (i _ (.inl rfl)),h.cls.mod a (i _ (.inr (.inl rfl))),A7 h.nodes a (fun k e=>i k (.inr (.inr (.inl e)))),A7 h.ab a (fun k e=>i k (.inr (.inr (.inr (.inl e))))),
  A7 h.ax a (fun k e c=>?_),fun j l=>a.ar (h.box j l) (i _ (.inr (.inr (.inr (.inr ⟨j,l,.inl rfl⟩))))),fun j l=>?_,h.one,h.two,?_,h.same⟩
 .subst c;exact Bo h.ax p v.symm e
 .have g:=h.ok j l;obtain ⟨z,n2⟩:=f j l;exact ⟨g.after.other a z,g.oi,g.ak.other a n2,g.mw,A7 g.parts a (fun k e=>i k (.inr (.inr (.inr (.inr ⟨j,l,.inr e⟩))))),g.user,g.part⟩
 .obtain ⟨w0,q,m,n⟩:=h.dh.ex;have:=n _ (.inl rfl);exact ⟨⟨w0,q,m.trans (a.below m.size fun k e=>by omega),n⟩,h.dh.ok⟩
def Ld {so:Option Addr} {n k o:Nat} {l:List Int} (h:Ar w so n l) (h0:0<n) (e:so=some ⟨k,o,none⟩):k<w.heap.size:=by
 obtain ⟨x,d⟩:=h.get (i:=0) h0;obtain ⟨f,c,b,a,_⟩:=h.cell 0 x d;rw [e] at b;cases b;exact a
def Bq.fp {js:List (Nat×aj)} (h:Bq w T js wr) (h0:An w T) {b:Nat} {c:Array VL} {a:TypeId} (y:wr.heap[b]?=some (.cells c a (0,0))) (p:Mod (fun k=>k=b) wr w') (g:w.heap.size<=b) (h1:a≠115) (s:a≠119) (t:a≠125) (u:a≠46) (v:a≠65) (x:a≠30):Bq w T js w':=by
 refine ⟨h.at_.fp y p (Bx (Ab h0.head) g) h1 s t u v x fun j z=>?_,h.ar,h.aw,h.mod.then p (fun k f e=>by omega),h.kp⟩;obtain ⟨i,n⟩:=Dg z;have hl:i<T.js.length:=by rw [<- h.len];exact (Ao.1 n).1
 have r:=A4 hl;have f:=h.kp i _ j r n;have q:=h0.ok _ (Ai r);refine ⟨fun d k o e=>?_,fun d k o e=>?_⟩
 .rw [f.sn] at d;rw [f.so] at e;have:=Ld q.after.row d e;omega
 .rcases f.ak with ⟨l,m,_⟩ | ⟨l,m,_⟩
  .rw [m] at d;rw [l] at e;have:=Ld q.ak.row d e;omega
  .omega
def Na (js:List (Nat×aj)) {i b:Nat} {x y:aj} (d:js[i]?=some (b,x)) {f:Jb->Jb} (g:y.pl=f x.pl):(js.set i (b,y)).map (fun j=>j.2.pl)=(js.map fun j=>j.2.pl).modify i f:=by
 apply Ea;intro k;rw [Ev];by_cases e:i=k
 .subst e;obtain ⟨c,a⟩:=Ao.1 d;simp [c,a,g]
 .simp [e]
end
section
open Go.RowKit Go.Maps Go.Lib
def An.mm {w:WD} {T:Tv} (h:An w T):∃ so cap,T.jv=.slice so T.js.length cap/\T.js.length<=cap/\T.js.length<=9223372036854775807/\∀ k j,T.js[k]?=some j->∃ g,so=some ⟨g,0,none⟩/\w.cell? ⟨g,k,none⟩=some (.pointer (some ⟨j.1,0,none⟩)):=by
 rcases h.ab.2 with ⟨e,h0⟩ | ⟨g,cap,f,e,_,_,h1,i,_⟩
 .refine ⟨none,0,by rw [e,h0],by omega,by omega,fun k j b=>?_⟩;have:=(Ao.1 b).1;omega
 .refine ⟨some ⟨g,0,none⟩,cap,e,h1,by unfold maxLen at i;omega,fun k j b=>?_⟩;obtain ⟨l,c,_,d,_,a⟩:=h.j6 b;rw [e] at a;simp at a;exact ⟨g,rfl,by rw [a.1];exact d⟩
def Aag (w:WD) (bs:List Nat):Nat:=bs.countP fun b=>match w.cell? ⟨b,14,none⟩ with
 | some (.int _ s)=>ed s
 | _=>false
def Afg {w:WD} {T:Tv} (h:An w T):Aag w (T.js.map Prod.fst)=Kh T.pl.ab:=by
 unfold Aag Kh Tv.pl;simp only;rw [List.countP_map,List.countP_map];apply List.countP_congr;intro j b;have a:=Bk (h.box j b) 14 (.int .i64 j.2.pl.lf.st) rfl;simp [a,Jb.waits]
def Afh (js:List Jb) (k:Nat):(Fr js k).map Jb.sp=js.map Jb.sp:=by
 unfold Fr;split
 .apply Ea;intro i;simp only [Bh,Ev]
  cases js[i]? with
  | none=>rfl
  | some j=>
   simp only [J9]
   split<;>rfl
 .rfl
def D8 (js:List Jb):Prop:=∀ j,j∈js->∀ id,id∈j.sp.after->1<=id/\id<=(js.length:Int)
def Qi {js a:List Jb} (h:D8 js) (e:a.map Jb.sp=js.map Jb.sp):D8 a:=fun j f i b=>by
 have g:a.length=js.length:=by have:=Ca List.length e;simpa using this
 have:j.sp∈js.map Jb.sp:=e▸Ku f;obtain ⟨k,d,c⟩:=Ba.1 this;rw [g];exact h k d i (by rw [c];exact b)
def Ki (w:WD) (T:Tv) (X:List Jb) (e:Ending) (w':WD):Prop:=e=.returned (.tuple #[])/\∃ js,Bq w T js w'/\js.map (fun j=>j.2.pl)=X
structure jj (w:WD) (T:Tv) (js:List (Nat×aj)) (X:List Jb) (wr:WD):Prop where
 tab:Bq w T js wr
 pl:js.map (fun j=>j.2.pl)=X
 jz:D8 X
def jj.low {w:WD} {T:Tv} {js:List (Nat×aj)} {X:List Jb} {wr w':WD} (h:jj w T js X wr) (a:BW wr.heap.size wr w'):jj w T js X w':=⟨h.tab.low a,h.pl,h.jz⟩
def Aah (v:VL):Nat:=match v with
 | .bool true=>1
 | _=>0
def Ww {w:WD} {T:Tv} (h:An w T) (ha:D8 T.pl.ab):CS prog 130 #[.pointer (some ⟨T.tb,0,none⟩)] w (Ki w T (Dj T.pl.ab)):=by
 obtain ⟨so,cap,ad,aV,aP,_⟩:=h.mm;obtain ⟨tb,ht⟩:=Ex (T.tb);obtain ⟨m,hm⟩:=Ex (T.js.length);obtain ⟨X0,x⟩:=Ex (T.pl.ab);have ap:jj w T T.js X0 w:=⟨Bq.refl h,x.symm,by rw [x];exact ha⟩
 have z:∀ (js:List (Nat×aj)) (X:List Jb) (W:WD),jj w T js X W->W.cell? ⟨tb,4,none⟩=some (.slice so m cap):=fun js X W hW=>by
  rw [ht,Aa hW.tab.at_.head 4,hm,<- ad];rfl
 have row:∀ (js:List (Nat×aj)) (X:List Jb) (W:WD),jj w T js X W->∀ k,k<m->∃ g j,so=some ⟨g,0,none⟩/\js[k]?=some j/\W.cell? ⟨g,k,none⟩=some (.pointer (some ⟨j.1,0,none⟩)):=fun js X W hW k hk=>by
  have hl:js.length=m:=by rw [hm];exact hW.tab.len
  obtain ⟨j,hj⟩:=Ge js k (by omega);obtain ⟨aT,aN,e1,_,_,hr⟩:=hW.tab.at_.mm;obtain ⟨g,e2,hc⟩:=hr k j hj;have e3:T.jv=.slice aT js.length aN:=e1;rw [ad] at e3;injection e3 with e3 _ _;exact ⟨g,j,e3.trans e2,hj,hc⟩
 rw [hm.symm] at aP;rw [<- ht,<- x];replace ⟨h,ha,ad,x,ap,z,row,hm⟩:=H8 h ha ad x ap z row hm;replace ht:=Hh ht;go_enter func130,ntmps130;go_wp2;go_loopw [2,4,12] (fun mv _ _ wr=>∃ (mb:Bool) (js:List (Nat×aj)) (X:List Jb),mv=.bool mb/\Hid (jj w T js X wr)/\Hid (Dj X0=if mb=true then Dj X else X)) (fun mv _ _ wr=>Aag wr (T.js.map Prod.fst)+Aah mv)
 case atStart=>exact ⟨true,T.js,X0,rfl,ap.out,rfl⟩
 case round=>
  rename WD=>wo
  obtain ⟨mb,js,X,rfl,u,hF⟩:=hrel
  cases mb with
  | false=>
   have an:Dj X0=X:=hF.out;replace an:=Hh an;go_wp2;go_end0;exact ⟨rfl,js,u.tab,u.pl.trans an.symm⟩
  | true=>
   have c4:=z _ _ _ u.out;have ac:jj w T js (Cf X 0).1 wo:=u.out;replace ac:=Hh ac;go_wp2;clear c4;go_loopw [2,4,12] (fun mv _ i wr=>∃ (k:Nat) (a:List (Nat×aj)),i=.int .i64 k/\k<=m/\mv=.bool (Cf X k).2/\Hid (jj w T a (Cf X k).1 wr)) (fun _ _ i _=>m-(intOf i).toNat)
   case atStart=>exact ⟨0,js,rfl,Aq _,rfl,ac.out⟩
   case round=>
    obtain ⟨k,a,rfl,hk,rfl,hE⟩:=hrel;by_cases hc:k<m
    .have aR:(k:Int)<m:=(by omega);have aU:(0:Int)<=(k:Int):=(by omega);obtain ⟨g,j,rfl,hj,cr⟩:=row _ _ _ hE.out k hc;obtain ⟨jb,jx⟩:=j;obtain ⟨Y,hY⟩:=Ex ((Cf X k).1);obtain ⟨q0,al⟩:=Ex ((Cf X k).2);have c:=hE.out;rw [<- hY] at c;obtain ⟨aF,aQ⟩:=c.tab.get hj;have o:=Ao8 aF;have aB:Y[k]?=some jx.pl:=by rw [<- c.pl];simp [hj]
     have s:=Ape (T:={ T with js:=a }) c.tab.at_ hj (fun id aS=>by
      have:=c.jz jx.pl (Ai aB) id aS;have e:Y.length=a.length:=(by rw [<- c.pl];simp);rw [e] at this
      exact this)
     have aO:({ T with js:=a }:Tv).pl.ab=Y:=c.pl;rw [aO] at s;have d:Gj Y k=(jx.pl.waits && Rv Y jx.pl):=by unfold Gj;rw [aB]
     have l:∀ b,Gj Y k=b->(Cf X (k+1))=(Fr Y k,q0 || b):=fun b q=>by
      show (Fr (Cf X k).1 k,(Cf X k).2 || Gj (Cf X k).1 k)=_;rw [<- hY,<- al,q]
     obtain ⟨qw,aM⟩:=Ex (jx.pl.waits);obtain ⟨ql,aL⟩:=Ex (Rv Y jx.pl);rw [<- aM] at o d;rw [<- aL] at s d;have mv:=fun (W:WD) (hW:Bb W jb jx)=>R7 hW 7 (by omega);rw [show ({ T with js:=a }:Tv).tb=tb from ht.symm] at s;rw [<- al];clear aB aO;replace ⟨hE,c,hj,aF,aQ,o,s,d⟩:=H8 hE c hj aF aQ o s d;replace ⟨l,aM,aL,mv,hY,al,hF,u⟩:=H8 l aM aL mv hY al hF u;replace ac:=Hh ac;go_wp2_with fail;refine o.mono ?_;rintro e w1 ⟨rfl,rfl⟩
     cases qw with
     | false=>
      have q:Gj Y k=false:=(by rw [d.out];rfl);have h1:=l false q;have v:jj w T a (Cf X (k+1)).1 w1:=(by rw [h1,Wv q];exact c.out);have hq:(Cf X (k+1)).2=q0:=(by rw [h1];simp);replace ⟨q,h1,v,hq⟩:=H4 q h1 v hq;go_wp2;go_roundw
      case rel=>exact ⟨k+1,a,by go_num,by omega,by rw [hq.out],v.out⟩
      case measure=>simp [intOf];omega
     | true=>
      go_wp2_with fail;refine s.mono ?_;rintro e w2 ⟨rfl,y⟩;have n:=c.low y;have p:=(n.tab.get hj.out).1
      cases ql with
      | false=>
       have q:Gj Y k=false:=(by rw [d.out];rfl);have h1:=l false q;have v:jj w T a (Cf X (k+1)).1 w2:=(by rw [h1,Wv q];exact n);have hq:(Cf X (k+1)).2=q0:=(by rw [h1];simp);replace ⟨q,h1,v,hq,y,n,p⟩:=H7 q h1 v hq y n p;go_wp2;go_roundw
       case rel=>exact ⟨k+1,a,by go_num,by omega,by rw [hq.out],v.out⟩
       case measure=>simp [intOf];omega
      | true=>
       have q:Gj Y k=true:=(by rw [d.out];rfl);have h1:=l true q;have aJ:=mv _ p;replace ⟨q,h1,y,n,p,aJ⟩:=H6 q h1 y n p aJ;go_wp2_with fail;refine aJ.mono ?_;rintro e w3 ⟨rfl,aC,aG⟩;have aE:=Wq aC;replace ⟨aC,aG,aE⟩:=H3 aC aG aE;go_wp2_with fail;refine aE.mono ?_;rintro e w4 ⟨rfl,aD,aH⟩
       have av:=
        n.tab.th hj.out (aG.trans aH) aD ((Wt _ _).trans (Wu _)) ⟨rfl,rfl,rfl,rfl⟩
       have aK:(a.set k (jb,(jx.bh (A2 jx.pl.lf 7).1).bare)).map (fun j=>j.2.pl)=Fr Y k:=(by rw [Na a hj.out (f:=fun j=>(j.move 7).bare) rfl,n.pl];unfold Fr;rw [Ad q.out]);have v:jj w T (a.set k (jb,(jx.bh (A2 jx.pl.lf 7).1).bare)) (Cf X (k+1)).1 w4:=(by rw [h1.out];exact ⟨av,aK,Qi n.jz (Afh _ _)⟩);have hq:(Cf X (k+1)).2=true:=(by rw [h1.out];simp);replace ⟨aD,aH,av,aK,v,hq⟩:=H6 aD aH av aK v hq;go_wp2;go_roundw
       case rel=>exact ⟨k+1,_,by go_num,by omega,by rw [hq.out],v.out⟩
       case measure=>simp [intOf];omega
    .have aR:¬ (k:Int)<m:=(by omega);have aI:k=m:=by omega
     have aA:X.length=m:=by
      have:=u.tab.len;have e:X.length=js.length:=(by rw [<- u.pl];simp);rw [e,this,hm.out]
     have e1:Cf X k=Cg X:=(by unfold Cg;rw [aA,aI]);rw [e1] at hE;rw [e1];have o:=Afg u.tab.at_;have am:=Afg hE.tab.at_;have b1:({ T with js:=js }:Tv).js.map Prod.fst=T.js.map Prod.fst:=u.tab.ar;have b2:({ T with js:=a }:Tv).js.map Prod.fst=T.js.map Prod.fst:=hE.tab.ar;rw [b1,show ({ T with js:=js }:Tv).pl.ab=X from u.pl] at o;rw [b2,show ({ T with js:=a }:Tv).pl.ab=(Cg X).1 from hE.pl] at am;have ao:Dj X0=Dj X:=hF.out;have r:=Apm X;obtain ⟨qp,t⟩:=Ex ((Cg X).2);rw [<- t] at r ⊢;replace ⟨o,am,ao,r,t,e1,aI,aA⟩:=H8 o am ao r t e1 aI aA;replace ⟨b1,b2⟩:=H2 b1 b2;go_wp2;go_roundw
     case rel=>
      refine ⟨qp,a,(Cg X).1,rfl,hE.out,?_⟩;show Dj X0=_;rw [ao.out,r.out]
      cases qp with
      | true=>rfl
      | false=>
       show X=(Cg X).1;exact (Aaf t.symm).symm
     case measure=>
      rw [o.out,am.out]
      cases qp with
      | true=>
       have:=Aae t.symm;simp [Aah];omega
      | false=>
       rw [Aaf t.symm];simp [Aah]
def Wy (a:List (Int×Int)) (k:Nat) (b:Int):(Au E1 a).set (k*2+1) (.int .i64 b)=Au E1 (a.modify k fun p=>(p.1,b)):=by
 induction a generalizing k with
 | nil=>simp [Au]
 | cons p l ih=>
  cases k with
  | zero=>simp [Au]
  | succ k=>
   have e:(k+1)*2+1=(k*2+1)+1+1:=(by omega);have:=ih k;rw [e,U7];simp only [Au,Ta] at this ⊢;simp only [Ox,Rg,Y0];rw [this]
def Afi (a:List (Int×Int)):(Au E1 a).length=a.length*2:=by
 induction a with
 | nil=>rfl
 | cons p l ih=>simp [Au] at ih ⊢;omega
def Apo {w:WD} {a pc:Nat} {n:Nat} {d:List (Int×Int)} (h:w.ownsRow 0 65 2 (.slice (some ⟨a,0,none⟩) n pc) n (Au E1 d)) (k:Nat) (b:Int) :
  (w.setCell ⟨a,k*2+1,none⟩ (.int .i64 b)).ownsRow 0 65 2 (.slice (some ⟨a,0,none⟩) n pc) n (Au E1 (d.modify k fun p=>(p.1,b))):=by
 refine ⟨by rw [<- Wy,Dm];exact h.1,?_⟩;rcases h.2 with ⟨e,_⟩ | ⟨g,cap,c,e,l,m,h1,f,i,j⟩
 .simp at e
 .simp at e;obtain ⟨rfl,rfl⟩:=e;refine .inr ⟨a,pc,c.setIfInBounds (k*2+1) (.int .i64 b),rfl,l,Am m _ _,h1,f,by simpa using i,?_⟩;rw [<- Wy,<- j];simp [List.take_set]
def aj.cg (x:aj) (p:Jb):aj:={ x with pl:=p }
def Qj {w:WD} {x:aj} (h:Bv w x) {k:Nat} (n:k<x.pn):∃ c p,x.po=some ⟨c,0,none⟩/\x.pl.parts[k]?=some p/\w.cell? ⟨c,k*2,none⟩=some (.int .i64 p.1)/\w.cell? ⟨c,k*2+1,none⟩=some (.int .i64 p.2):=by
 have o:=Jt h;obtain ⟨p,b⟩:=Ge x.pl.parts k (by omega);rcases h.2 with ⟨_,e⟩ | ⟨g,cap,l,e,_,_,_⟩
 .omega
 .simp at e;have a:=h;unfold Bv at a;rw [e.1,e.2] at a;have f:=E6 a (k*2) (by omega);have i:=E6 a (k*2+1) (by omega);have d:=F2 Aep x.pl.parts (j:=0) b (by omega);have m:=F2 Aep x.pl.parts (j:=1) b (by omega);rw [Io] at d;exact ⟨g,p,e.1,b,by rw [f,d];rfl,by rw [i,m];rfl⟩
def Wz {w:WD} {b:Nat} {x:aj} (hb:Bb w b x) (hp:Bv w x) (k:Nat) (hk:k<x.pn) (pb:Nat) (g:x.po=some ⟨pb,0,none⟩) (d:Int) :
  CS prog 140 #[.pointer (some ⟨b,0,none⟩),.pointer (some ⟨pb,k*2,none⟩),.int .i64 d] w fun e w'=>e=.returned (.tuple #[])/\Bb w' b (x.cg (Fb x.pl k d))/\Bv w' (x.cg (Fb x.pl k d))/\Mod (F4 (b,x)) w w':=by
 have f:x.pb=some pb:=by unfold aj.pb;rw [g];rfl
 have u:pb≠b:=fun e=>Bo hp hb (by decide) (by rw [<- e];exact f);have hl:=Jt hp;obtain ⟨al,p,e,ac,_,c1⟩:=Qj hp hk;rw [g] at e;injection e with e;injection e with e _ _;subst e;obtain ⟨ad,n,_⟩:=Cq hp f;have f1:=Af n;have v:=hp;unfold Bv at v;rw [g] at v;have y:=Apo v k d;obtain ⟨w1,r⟩:=Ex (w.setCell ⟨pb,k*2+1,none⟩ (.int .i64 d));have t:Mod (fun k=>k=pb) w w1:=by rw [r];exact Mod.setCell _ _ _ _ rfl
 have j:Bb w1 b x:=t.ar hb (fun e=>u e.symm);rw [<- r] at y;have o:Mod (F4 (b,x)) w w1:=t.mono fun i _ e=>.inr (by rw [e];exact f)
 have h:∀ (l:Lf) (W:WD),Bb W b (x.bh l)->Mod (fun k=>k=b) w1 W->l=Qb d x.pl.lf->Bb W b (x.cg (Fb x.pl k d))/\Bv W (x.cg (Fb x.pl k d))/\Mod (F4 (b,x)) w W:=fun l W hW hm hl=>by
  subst hl;refine ⟨hW,?_,o.trans (Pb hm)⟩
  have:=A7 y hm fun i hi c=>by
   simp [Value.ownBlock] at hi;exact u (hi.trans c)
  unfold Bv;show W.ownsRow 0 65 2 (.slice x.po x.pn x.pc) x.pn _;rw [g];exact this
 have k4:=R7 j 4 (by omega);have k5:=R7 j 5 (by omega);rw [r] at k4 k5
 have hs:Qb d x.pl.lf=if d=2 then (A2 x.pl.lf 4).1 else if d=3 then (A2 x.pl.lf 5).1 else x.pl.lf:=rfl
 have m:=j;have s:=Hh r;clear r n v ac;replace ⟨hb,hp,g,f,u,hl,y,t⟩:=H8 hb hp g f u hl y t;replace ⟨j,o,h,k4,k5,hs,m⟩:=H7 j o h k4 k5 hs m;by_cases q:d=2
 .have d1:(d == (2:Int))=true:=by rw [q];rfl
  have a:Qb d x.pl.lf=(A2 x.pl.lf 4).1:=by rw [hs.out,Ad q]
  replace ⟨q,a⟩:=H2 q a;go_enter func140,ntmps140;go_wp2_with fail;refine k4.mono ?_;rw [<- s.out];rintro e w2 ⟨rfl,h1,h2⟩;replace ⟨h1,h2⟩:=H2 h1 h2;go_wp2;go_end0;exact ⟨rfl,h _ _ h1.out h2.out a.symm⟩
 .have d1:=Bl.2 q;by_cases z:d=3
  .have d2:(d == (3:Int))=true:=(by rw [z];rfl);have a:Qb d x.pl.lf=(A2 x.pl.lf 5).1:=(by rw [hs.out,Ac q,Ad z]);replace ⟨q,z,a⟩:=H3 q z a;go_enter func140,ntmps140;go_wp2_with fail;refine k5.mono ?_;rw [<- s.out];rintro e w2 ⟨rfl,h1,h2⟩;replace ⟨h1,h2⟩:=H2 h1 h2;go_wp2;go_end0;exact ⟨rfl,h _ _ h1.out h2.out a.symm⟩
  .have d2:=Bl.2 z;have a:Qb d x.pl.lf=x.pl.lf:=(by rw [hs.out,Ac q,Ac z]);replace ⟨q,z,a⟩:=H3 q z a;go_enter func140,ntmps140;go_wp2;go_end0;rw [<- s.out];exact ⟨rfl,h _ _ m.out (Mod.refl _ _) a.symm⟩
structure ui (w:WD) (b:Nat) (x:aj) (p:Jb) (wr:WD):Prop where
 box:Bb wr b (x.cg p)
 parts:Bv wr (x.cg p)
 mod:Mod (F4 (b,x)) w wr
def Afj {w:WD} {b:Nat} {x:aj} (hb:Bb w b x) (hp:Bv w x) (a:Int) :
  CS prog 133 #[.pointer (some ⟨b,0,none⟩),.int .i64 a] w fun e w'=>e=.returned (.tuple #[])/\ui w b x (Fc x.pl a) w':=by
 have hl:=Jt hp;have h0:ui w b x (G5 x.pl a 0) w:=⟨hb,hp,Mod.refl _ _⟩;have y:=Bk hb 21 (.slice x.po x.pn x.pc) rfl;obtain ⟨po,l⟩:=Ex (x.po);obtain ⟨pn,g⟩:=Ex (x.pn);obtain ⟨pc,s⟩:=Ex (x.pc)
 have ao:pn<=9223372036854775807:=by
  rw [g];rcases hp.2 with ⟨_,e2⟩ | ⟨g',an,ap,e2,_,_,h1,h2,_⟩
  .omega
  .unfold maxLen at h2;omega
 rw [<- l,<- g,<- s] at y;have hJ:Fc x.pl a=G5 x.pl a pn:=by unfold Fc;rw [hl,g]
 rw [hJ];replace ⟨hb,hp,hl,h0,l,g,s,hJ⟩:=H8 hb hp hl h0 l g s hJ;go_enter func133,ntmps133;go_wp2;clear y;go_loopw [4,5,11] (fun _ _ i wr=>∃ k:Nat,i=.int .i64 k/\k<=pn/\Hid (ui w b x (G5 x.pl a k) wr)) (fun _ _ i _=>pn-(intOf i).toNat)
 case atStart=>exact ⟨0,rfl,Aq _,h0.out⟩
 case round=>
  obtain ⟨k,rfl,hk,hG⟩:=hrel;by_cases hc:k<pn
  .have am:(k:Int)<pn:=(by omega);have av:(0:Int)<=(k:Int):=(by omega);obtain ⟨j,hj⟩:=Ex (G5 x.pl a k);obtain ⟨X,n⟩:=Ex (x.cg j);have d:=hG.out;rw [<- hj] at d;have r:Bv wr X:=(by rw [n];exact d.parts);have o:Bb wr b X:=(by rw [n];exact d.box);have ac:k<X.pn:=(by rw [n];show k<x.pn;rw [<- g.out];exact hc);obtain ⟨pb,p,e,ad,c0,c1⟩:=Qj r ac;have e2:po=some ⟨pb,0,none⟩:=(by rw [l.out,<- e,n];rfl);have y:wr.cell? ⟨b,21,none⟩=some (.slice (some ⟨pb,0,none⟩) pn pc):=(by rw [Aa o 21,n];show some (Value.slice x.po x.pn x.pc)=_;rw [<- l.out,<- g.out,<- s.out,e2]);have h:=Wz o r k ac pb e 3;obtain ⟨t,u⟩:=p
   have f:G5 x.pl a (k+1)=if u=0/\(a<0\/t=a) then Fb j k 3 else j:=by
    show M3 (G5 x.pl a k) k a=_;rw [<- hj];have al:j.parts[k]?=some (t,u):=(by rw [<- ad,n];rfl);unfold M3;rw [al]
   have hw:∀ W:WD,Bb W b (X.cg (Fb X.pl k 3))/\Bv W (X.cg (Fb X.pl k 3))/\Mod (F4 (b,X)) wr W->u=0/\(a<0\/t=a)->ui w b x (G5 x.pl a (k+1)) W:=fun W ⟨h1,h2,h3⟩ hq=>by
    rw [f,Ad hq];rw [n] at h1 h2 h3;exact ⟨h1,h2,d.mod.trans h3⟩
   have hn:¬ (u=0/\(a<0\/t=a))->ui w b x (G5 x.pl a (k+1)) wr:=fun hq=>by
    rw [f,Ac hq];exact d
   clear ad;replace ⟨d,r,o,h,f,hw,hn,e⟩:=H8 d r o h f hw hn e;replace ⟨e2,n,hj,hG⟩:=H4 e2 n hj hG;by_cases q:u=0
   .have d1:(u == (0:Int))=true:=(by rw [q];rfl);by_cases q2:a<0
    .have m:u=0/\(a<0\/t=a):=⟨q,.inl q2⟩;replace ⟨q,m⟩:=H2 q m;go_wp2_with fail;refine h.mono ?_;rintro e w2 ⟨rfl,hh⟩;have c:=hw _ hh m.out;clear hh;replace c:=Hh c;go_wp2;go_roundw
     case rel=>exact ⟨k+1,by go_num,by omega,c.out⟩
     case measure=>simp [intOf];omega
    .by_cases v:t=a
     .have m:u=0/\(a<0\/t=a):=⟨q,.inr v⟩;have d3:(t == a)=true:=(by rw [v];simp);replace ⟨q,m,v⟩:=H3 q m v;go_wp2_with fail;refine h.mono ?_;rintro e w2 ⟨rfl,hh⟩;have c:=hw _ hh m.out;clear hh;replace c:=Hh c;go_wp2;go_roundw
      case rel=>exact ⟨k+1,by go_num,by omega,c.out⟩
      case measure=>simp [intOf];omega
     .have d3:=Bl.2 v;have c:=hn.out fun m=>m.2.elim q2 v;replace ⟨q,v,c⟩:=H3 q v c;go_wp2;go_roundw
      case rel=>exact ⟨k+1,by go_num,by omega,c.out⟩
      case measure=>simp [intOf];omega
   .have d1:=Bl.2 q;have c:=hn.out fun m=>q m.1;replace ⟨q,c⟩:=H2 q c;go_wp2;go_roundw
    case rel=>exact ⟨k+1,by go_num,by omega,c.out⟩
    case measure=>simp [intOf];omega
  .have am:¬ (k:Int)<pn:=(by omega);have z:k=pn:=(by omega);have d:=hG.out;rw [z] at d;replace ⟨d,z⟩:=H2 d z;go_wp2;go_end0;exact ⟨rfl,d.out⟩
def App:∀ args w,(callFunc 183 args).run prog w=.ok (.enter 183 args) w:=I4 func183 (by decide) (by simp [f183])
def Afk {w:WD} {x:aj} (h:Bv w x):M9 w x.po x.pn x.pl.parts:=by
 have o:=Jt h;refine ⟨o,?_,fun i p c=>?_⟩
 .rcases h.2 with ⟨_,e⟩ | ⟨g,cap,b,e,_,_,h1,l,_⟩
  .omega
  .unfold maxLen at l;omega
 .have q:=(Ao.1 c).1;obtain ⟨d,r,e,a,f,j⟩:=Qj h (k:=i) (by omega);rw [c] at a;injection a with a;subst a;have m:x.pb=some d:=by unfold aj.pb;rw [e];rfl
  obtain ⟨b,n,_⟩:=Cq h m;exact ⟨d,e,Ab n,f,j⟩
def Bv.low {w w':WD} {x:aj} (h:Bv w x) (a:BW w.heap.size w w'):Bv w' x:=A7 (S:=fun _=>False) h (Mod.af a) fun _ _ c=>c
def Apq (x:Int×Int) (w:WD):CS prog 183 (#[.agg #[.int .i64 x.1,.int .i64 x.2]]++#[]) w fun e w'=>e=.returned (.bool (decide (x.2=0)))/\BW w.heap.size w w':=by
 have a:Hid (BW w.heap.size w (w.alloc (.cells #[.int .i64 x.1,.int .i64 x.2] 65 (0,0)))):=Hh Bn;by_cases q:x.2=0
 .have d:(x.2 == (0:Int))=true:=by rw [q];rfl
  have b:=Av q;rw [b];replace ⟨q,b⟩:=H2 q b;go_enter func183,ntmps183;go_wp2;go_ret;exact ⟨rfl,a.out⟩
 .have d:=Bl.2 q;have b:=Ax q;rw [b];replace ⟨q,b⟩:=H2 q b;go_enter func183,ntmps183;go_wp2;go_ret;exact ⟨rfl,a.out⟩
def Apr {w:WD} {x:aj} (h:Bv w x):CS prog 182 #[.slice x.po x.pn x.pc,.func (.func 183) #[] #[]] w fun e w'=>e=.returned (.bool x.pl.open_)/\BW w.heap.size w w':=
 Apb 183 #[] (fun p=>decide (p.2=0)) x.po x.pn x.pc x.pl.parts w (Afk h) App fun p _ w1 _=>Apq p w1
def D9 (f:Jb->Jb) (X:List Jb):Nat->List Jb
 | 0=>X
 | n+1=>(D9 f X n).modify n f
def Aai (f:Jb->Jb) (X:List Jb) (n i:Nat):(D9 f X n)[i]?=if i<n then (X[i]?).map f else X[i]?:=by
 induction n with
 | zero=>simp [D9]
 | succ n ih=>
  show ((D9 f X n).modify n f)[i]?=_;rw [Ev,ih];by_cases h:n=i
  .subst h;simp
  .by_cases b:i<n
   .have a:i<n+1:=(by omega);simp [h,b,a]
   .have a:¬ i<n+1:=(by omega);simp [h,b,a]
def R8 (f:Jb->Jb) (X:List Jb):D9 f X X.length=X.map f:=by
 apply Ea;intro i;rw [Aai,Bh];split
 .rfl
 .have:X[i]?=none:=Ot (by omega);rw [this];rfl
def W8 (f:Jb->Jb) (a:∀ j,(f j).sp=j.sp) (X:List Jb) (n:Nat):(D9 f X n).map Jb.sp=X.map Jb.sp:=by
 apply Ea;intro i;rw [Bh,Bh,Aai];split
 .rw [Option.map_map];congr 1
  funext j
  exact a j
 .rfl
def Afl (j:Jb):(Dq j).sp=j.sp:=by
 unfold Dq;split
 .rfl
 .split<;>rfl
def aj.fw (x:aj):aj:={ x with pl:={ x.pl with parts:=[] },po:=none,pn:=0,pc:=0 }
def Afm (x:aj):G7 x x.fw:=⟨rfl,rfl,rfl,rfl,rfl,rfl,.inl ⟨rfl,rfl,rfl,rfl⟩,fun b h=>by cases h⟩
def Afn (w:WD) (x:aj):Bv w x.fw:=Lv _ _ _ _
def Aps {x:aj} {w:WD} (h:Bv w x):(x.pn:Int)=0↔x.pl.parts=[]:=by
 have:=Jt h;rw [<- Gd];omega
def Ki.then {w w1:WD} {T:Tv} {js:List (Nat×aj)} {X:List Jb} {e:Ending} {w':WD} (h:Bq w T js w1) (b:Ki w1 { T with js:=js } X e w'):Ki w T X e w':=by
 obtain ⟨h1,a,c,d⟩:=b;exact ⟨h1,a,h.then c,d⟩
def Aaj {w:WD} {T:Tv} (h:An w T) (ha:D8 T.pl.ab):CS prog 134 #[.pointer (some ⟨T.tb,0,none⟩)] w (Ki w T (Gk T.pl.ab)):=by
 obtain ⟨so,cap,aK,a5,aW,_⟩:=h.mm;obtain ⟨tb,ht⟩:=Ex (T.tb);obtain ⟨m,hm⟩:=Ex (T.js.length);obtain ⟨x,am⟩:=Ex (T.pl.ab);have aI:jj w T T.js (D9 Dq x 0) w:=⟨Bq.refl h,am.symm,by show D8 x;rw [am];exact ha⟩;have aO:x.length=m:=by rw [am,hm];simp [Tv.pl]
 have aF:∀ (js:List (Nat×aj)) (X:List Jb) (W:WD),jj w T js X W->W.cell? ⟨tb,4,none⟩=some (.slice so m cap):=fun js X W hW=>by
  rw [ht,Aa hW.tab.at_.head 4,hm,<- aK];rfl
 have row:∀ (js:List (Nat×aj)) (X:List Jb) (W:WD),jj w T js X W->∀ k,k<m->∃ g j,so=some ⟨g,0,none⟩/\js[k]?=some j/\W.cell? ⟨g,k,none⟩=some (.pointer (some ⟨j.1,0,none⟩)):=fun js X W hW k hk=>by
  have hl:js.length=m:=by rw [hm];exact hW.tab.len
  obtain ⟨j,hj⟩:=Ge js k (by omega);obtain ⟨a1,aV,e1,_,_,hr⟩:=hW.tab.at_.mm;obtain ⟨g,e2,hc⟩:=hr k j hj;have e3:T.jv=.slice a1 js.length aV:=e1;rw [aK] at e3;injection e3 with e3 _ _;exact ⟨g,j,e3.trans e2,hj,hc⟩
 have c4:=aF _ _ _ aI;rw [hm.symm] at aW;rw [<- ht,<- am];replace ⟨h,ha,aK,am,aI,aF,row,hm⟩:=H8 h ha aK am aI aF row hm;replace ⟨ht,aO⟩:=H2 ht aO;go_enter func134,ntmps134;go_wp2;clear c4;go_loopw [3,10] (fun _ i wr=>∃ (k:Nat) (js:List (Nat×aj)),i=.int .i64 k/\k<=m/\Hid (jj w T js (D9 Dq x k) wr)) (fun _ i _=>m-(intOf i).toNat)
 case atStart=>exact ⟨0,T.js,rfl,Aq _,aI.out⟩
 case round=>
  obtain ⟨k,js,rfl,hk,hE⟩:=hrel;by_cases hc:k<m
  .have aY:(k:Int)<m:=(by omega);have a4:(0:Int)<=(k:Int):=(by omega);obtain ⟨g,j,rfl,hj,cr⟩:=row _ _ _ hE.out k hc;obtain ⟨jb,b⟩:=j;obtain ⟨Y,hY⟩:=Ex (D9 Dq x k);have a:=hE.out;rw [<- hY] at a;obtain ⟨aE,an⟩:=a.tab.get hj;have av:Y[k]?=some b.pl:=(by rw [<- a.pl];simp [hj]);have n:D9 Dq x (k+1)=Y.modify k Dq:=(by rw [hY];rfl);have p:D8 (D9 Dq x (k+1)):=Qi a.jz (by rw [W8 _ Afl,hY,W8 _ Afl]);have r:=Aps an.parts;have a2:=Bk aE 21 (.slice b.po b.pn b.pc) rfl;obtain ⟨pn,u⟩:=Ex (b.pn);obtain ⟨po,ap⟩:=Ex (b.po);obtain ⟨pc,ao⟩:=Ex (b.pc);rw [<- u,<- ap,<- ao] at a2;have z:=Apr an.parts;rw [<- u,<- ap,<- ao] at z;have aG:=fun (W:WD) (hW:Bb W jb b)=>R7 hW 8 (by omega)
   have s:∀ y,b.pl.parts=[]\/b.pl.open_=true->y=D9 Dq x (k+1)->y=Y:=fun y hy e=>by
    rw [e,n];have e1:Dq b.pl=b.pl:=Ad hy;apply Ea;intro i;rw [Ev];by_cases h:k=i
    .subst h;simp [av,e1]
    .simp [h]
   by_cases q0:pn=0
   .have d1:((pn:Int) == 0)=true:=(by rw [q0];rfl);have d:jj w T js (D9 Dq x (k+1)) wr:=(by rw [s _ (.inl (r.1 (by rw [<- u,q0];rfl))) rfl];exact a);replace ⟨q0,hE,a,hj,aE,an,hY,av⟩:=H8 q0 hE a hj aE an hY av;replace ⟨n,p,r,u,ap,ao,z,aG⟩:=H8 n p r u ap ao z aG;replace ⟨s,d⟩:=H2 s d;go_wp2;go_roundw
    case rel=>exact ⟨k+1,js,by go_num,by omega,d.out⟩
    case measure=>simp [intOf];omega
   .have d1:((pn:Int) == 0)=false:=(by rw [Bl];omega);obtain ⟨q,hq⟩:=Ex (b.pl.open_);rw [<- hq] at z;replace ⟨q0,hE,a,hj,aE,an,hY,av⟩:=H8 q0 hE a hj aE an hY av;replace ⟨n,p,r,u,ap,ao,z,aG⟩:=H8 n p r u ap ao z aG;replace ⟨s,hq⟩:=H2 s hq;go_wp2_with fail;refine z.mono ?_;rintro e w1 ⟨rfl,aB⟩;have o:=a.low aB;have t:=(o.tab.get hj.out).1
    cases q with
    | true=>
     have d:jj w T js (D9 Dq x (k+1)) w1:=(by rw [s _ (.inr hq.symm) rfl];exact o);replace ⟨aB,o,t,d⟩:=H4 aB o t d;go_wp2;go_roundw
     case rel=>exact ⟨k+1,js,by go_num,by omega,d.out⟩
     case measure=>simp [intOf];omega
    | false=>
     have ad:=aG _ t;obtain ⟨l,hl⟩:=Ex ((A2 b.pl.lf 8).1);rw [<- hl] at ad
     have aM:Dq b.pl=if l.st=1 then ⟨b.pl.id,b.pl.sp,l,-1,[],[]⟩ else ⟨b.pl.id,b.pl.sp,l,b.pl.start,b.pl.ak,[]⟩:=by
      have aZ:¬ (b.pl.parts=[]\/b.pl.open_=true):=fun c=>by
       rcases c with c | c
       .exact q0.out (by have:=r.2 c;rw [u.out];omega)
       .rw [<- hq.out] at c;cases c
      rw [hl];exact Ac aZ
     replace ⟨aB,o,t,ad,hl,aM⟩:=H6 aB o t ad hl aM;go_wp2_with fail;refine ad.mono ?_;rintro e w2 ⟨rfl,aC,aS⟩;obtain ⟨w3,aH⟩:=Ex (w2.setCell ⟨jb,21,none⟩ (.slice none 0 0));have aD:Bb w3 jb (b.bh l).fw:=(by unfold Bb;rw [aH,Am aC];simp [aj.fw]);have aL:Kb jb w1 w3:=(by rw [aH];exact aS.trans (Mod.setCell _ _ _ _ rfl));have aX:∃ v,w2.cell? ⟨jb,21,none⟩=some v:=⟨_,Aa aC 21⟩;obtain ⟨a6,aX⟩:=aX;have fz:=Af aC;have a3:=Bk aD 14 (.int .i64 l.st) rfl;have aJ:=Wq aD;rw [aH] at a3 aJ;have aN:=Hh aH;clear aH;replace ⟨aC,aS,aD,aL,aJ⟩:=H5 aC aS aD aL aJ;by_cases q1:l.st=1
     .have d3:=L0.2 q1;have ac:Dq b.pl=⟨b.pl.id,b.pl.sp,l,-1,[],[]⟩:=(by rw [aM.out,Ad q1]);replace ⟨q1,ac⟩:=H2 q1 ac;go_wp2_with fail;refine aJ.mono ?_;rw [<- aN.out];rintro e w4 ⟨rfl,aP,aT⟩
      have al:=
       o.tab.dj hj.out (Pb (aL.trans aT)) aP (Afn _ (b.bh l).bare) (((Wt _ _).trans (Afm _)).trans (Wu _))
      have d:jj w T (js.set k (jb,(b.bh l).fw.bare)) (D9 Dq x (k+1)) w4:=(by refine ⟨al,?_,p.out⟩;rw [Na js hj.out (f:=Dq) (by rw [ac.out];rfl),o.pl,n.out]);replace ⟨aP,aT,al,d⟩:=H4 aP aT al d;go_wp2;go_roundw
      case rel=>exact ⟨k+1,_,by go_num,by omega,d.out⟩
      case measure=>simp [intOf];omega
     .have d3:=Bl.2 q1;have ac:Dq b.pl=⟨b.pl.id,b.pl.sp,l,b.pl.start,b.pl.ak,[]⟩:=by rw [aM.out,Ac q1]
      have al:=
       o.tab.dj hj.out (Pb aL.out) aD.out (Afn _ (b.bh l)) ((Wt _ _).trans (Afm _))
      have d:jj w T (js.set k (jb,(b.bh l).fw)) (D9 Dq x (k+1)) w3:=(by refine ⟨al,?_,p.out⟩;rw [Na js hj.out (f:=Dq) (by rw [ac];rfl),o.pl,n.out]);rw [aN.out] at d;clear al;replace ⟨q1,ac,d⟩:=H3 q1 ac d;go_wp2;go_roundw
      case rel=>exact ⟨k+1,_,by go_num,by omega,d.out⟩
      case measure=>simp [intOf];omega
  .have aY:¬ (k:Int)<m:=(by omega);have aU:k=m:=(by omega);have a:=hE.out;have aA:D9 Dq x k=x.map Dq:=(by rw [aU,<- aO.out];exact R8 _ _);rw [aA] at a
   have aQ:CS prog 130 #[.pointer (some ⟨tb,0,none⟩)] wr (Ki wr { T with js:=js } (Dj (x.map Dq))):=by
    have:=Ww (T:={ T with js:=js }) a.tab.at_ (by
     show D8 (js.map fun j=>j.2.pl)
     rw [a.pl];exact a.jz)
    rw [show ({ T with js:=js }:Tv).pl.ab=x.map Dq from a.pl] at this;rw [ht.out];exact this
   replace ⟨aQ,a,aA,aU,hE⟩:=H5 aQ a aA aU hE;go_wp2_with fail;refine aQ.mono ?_;rintro e w2 hp
   have a0:=Ki.then a.tab hp
   obtain ⟨rfl,aR⟩:=a0;replace aR:=Hh aR;clear hp;go_wp2;go_end0;exact ⟨rfl,aR.out⟩
def F7 (kind:Int):Int:=if kind=3 then 6 else if kind=4 then 1 else 2
def Afo (k:Int) (w:WD):CS prog 101 #[.int .i64 k] w fun e w'=>e=.returned (.int .i64 (F7 k))/\w'=w:=by
 by_cases q:k=3
 .have d:(k == (3:Int))=true:=by rw [q];rfl
  have a:F7 k=6:=Ad q;rw [a];replace ⟨q,a⟩:=H2 q a;go_enter func101,ntmps101;go_wp2;go_ret;exact ⟨rfl,rfl⟩
 .have d:=Bl.2 q;by_cases b:k=4
  .have c:(k == (4:Int))=true:=(by rw [b];rfl);have a:F7 k=1:=(by unfold F7;rw [Ac q,Ad b]);rw [a];replace ⟨q,a,b⟩:=H3 q a b;go_enter func101,ntmps101;go_wp2;go_ret;exact ⟨rfl,rfl⟩
  .have c:=Bl.2 b;have a:F7 k=2:=(by unfold F7;rw [Ac q,Ac b]);rw [a];replace ⟨q,a,b⟩:=H3 q a b;go_enter func101,ntmps101;go_wp2;go_ret;exact ⟨rfl,rfl⟩
def Apt {α:Type} {p:α->Bool} {l:List α} {k:Nat} {x:α} (h:∀ i y,i<k->l[i]?=some y->p y=false) (d:l[k]?=some x) (c:p x=true):l.findIdx? p=some k:=by
 obtain ⟨b,e⟩:=Ao.1 d;rw [Yk];refine ⟨b,by rw [e];exact c,fun j a=>?_⟩;have:=h j _ a (A4 (by omega));simp [this]
def Apu {α:Type} {p:α->Bool} {l:List α} {n:Nat} (c:l.length=n) (h:∀ i y,i<n->l[i]?=some y->p y=false):l.findIdx? p=none:=by
 rw [List.findIdx?_eq_none_iff];intro x b;obtain ⟨i,a,e⟩:=Py.1 b;exact h i x (by omega) (by rw [A4 a,e])
def Afp (x:aj) (attempt node:Int) (w:WD) (e:Ending) (w':WD):Prop:=
 w'=w/\((Gl x.pl attempt node=none/\e=.returned (.pointer none))\/∃ k pb,Gl x.pl attempt node=some k/\x.po=some ⟨pb,0,none⟩/\k<x.pn/\e=.returned (.pointer (some ⟨pb,k*2,none⟩)))
def Afq {w:WD} {b:Nat} {x:aj} (hb:Bb w b x) (hp:Bv w x) (attempt node:Int):CS prog 102 #[.pointer (some ⟨b,0,none⟩),.int .i64 attempt,.int .i64 node] w (Afp x attempt node w):=by
 have hl:=Jt hp
 have a:Gl x.pl attempt node=if di x.pl.lf.st=true/\x.pl.lf.bj=attempt then x.pl.parts.findIdx? (fun p=>decide (p.1=node) && decide (p.2=0)) else none:=rfl
 have an:=Bk hb 14 (.int .i64 x.pl.lf.st) rfl;have ao:=Bk hb 15 (.int .i64 x.pl.lf.bj) rfl;have ap:=Bk hb 21 (.slice x.po x.pn x.pc) rfl;obtain ⟨st,al⟩:=Ex (x.pl.lf.st);obtain ⟨at_,ac⟩:=Ex (x.pl.lf.bj);obtain ⟨po,u⟩:=Ex (x.po);obtain ⟨pn,f⟩:=Ex (x.pn);obtain ⟨pc,ad⟩:=Ex (x.pc);have av:pn<=9223372036854775807:=by rw [f];exact (Afk hp).max
 rw [<- al] at an a;rw [<- ac] at ao a;rw [<- u,<- f,<- ad] at ap;have j:=Qg st w;obtain ⟨q,hq⟩:=Ex (di st);rw [<- hq] at j a;replace ⟨hb,hp,hl,al,ac,u,f,ad⟩:=H8 hb hp hl al ac u f ad;replace ⟨j,hq⟩:=H2 j hq
 cases q with
 | false=>
  have d:Gl x.pl attempt node=none:=by rw [a];exact Ac (fun c=>by cases c.1)
  replace ⟨a,d⟩:=H2 a d;go_enter func102,ntmps102;go_wp2_with fail;refine j.mono ?_;rintro e w' ⟨rfl,rfl⟩;go_wp2;go_ret;exact ⟨rfl,.inl ⟨d.out,rfl⟩⟩
 | true=>
  by_cases qa:at_=attempt
  .have d1:(at_ != attempt)=false:=(by rw [qa];simp);have g:Gl x.pl attempt node=x.pl.parts.findIdx? (fun p=>decide (p.1=node) && decide (p.2=0)):=(by rw [a];exact Ad ⟨rfl,qa⟩);replace ⟨a,g,qa⟩:=H3 a g qa;go_enter func102,ntmps102;go_wp2_with fail;refine j.mono ?_;rintro e w' ⟨rfl,rfl⟩;go_wp2;go_loopw [7,8,30] (fun _ _ i wr=>∃ k:Nat,i=.int .i64 k/\k<=pn/\Hid (∀ i y,i<k->x.pl.parts[i]?=some y->(decide (y.1=node) && decide (y.2=0))=false)/\wr=w') (fun _ _ i _=>pn-(intOf i).toNat)
   case atStart=>exact ⟨0,rfl,Aq _,(fun i y h=>by omega),rfl⟩
   case round=>
    obtain ⟨k,rfl,hk,l,rfl⟩:=hrel;by_cases hc:k<pn
    .have am:(k:Int)<pn:=(by omega);have aA:(0:Int)<=(k:Int):=(by omega);obtain ⟨pb,p,e,t,c0,c1⟩:=Qj hp.out (k:=k) (by rw [<- f.out];exact hc);have v:=u.out;rw [e] at v;obtain ⟨p1,p2⟩:=p;subst v
     have s:(decide (p1=node) && decide (p2=0))=false->∀ i y,i<k+1->x.pl.parts[i]?=some y->(decide (y.1=node) && decide (y.2=0))=false:=fun hf i y hi m=>by
      by_cases c:i=k
      .subst c;rw [t] at m;injection m with m;rw [<- m];exact hf
      .exact l.out i y (by omega) m
     have o:(decide (p1=node) && decide (p2=0))=true->Gl x.pl attempt node=some k:=fun hf=>by
      rw [g.out];exact Apt l.out t hf
     replace ⟨t,s,o,e⟩:=H4 t s o e;by_cases r:p1=node
     .have d2:(p1 == node)=true:=(by rw [r];simp);by_cases z:p2=0
      .have d3:(p2 == (0:Int))=true:=(by rw [z];rfl);have m:=o (by simp [r,z]);replace ⟨r,z,m⟩:=H3 r z m;go_wp2;go_ret;exact ⟨rfl,.inr ⟨k,pb,m.out,e.out,by rw [<- f.out];exact hc,rfl⟩⟩
      .have d3:=Bl.2 z;have hn:=s (by simp [z]);replace ⟨r,z,hn⟩:=H3 r z hn;go_wp2;go_roundw
       case rel=>exact ⟨k+1,by go_num,by omega,hn.out,trivial⟩
       case measure=>simp [intOf];omega
     .have d2:=Bl.2 r;have hn:=s (by simp [r]);replace ⟨r,hn⟩:=H2 r hn;go_wp2;go_roundw
      case rel=>exact ⟨k+1,by go_num,by omega,hn.out,trivial⟩
      case measure=>simp [intOf];omega
    .have am:¬ (k:Int)<pn:=by omega
     have d:Gl x.pl attempt node=none:=by rw [g.out];exact Apu (n:=pn) (by rw [hl.out,f.out]) fun i y hi m=>l.out i y (by omega) m
     replace d:=Hh d;go_wp2;go_ret;exact ⟨rfl,.inl ⟨d.out,rfl⟩⟩
  .have d1:(at_ != attempt)=true:=(by rw [Fp];exact qa);have d:Gl x.pl attempt node=none:=(by rw [a];exact Ac (fun c=>qa c.2));replace ⟨a,d,qa⟩:=H3 a d qa;go_enter func102,ntmps102;go_wp2_with fail;refine j.mono ?_;rintro e w' ⟨rfl,rfl⟩;go_wp2;go_ret;exact ⟨rfl,.inl ⟨d.out,rfl⟩⟩
variable {w w':WD} {T:Tv}
def An.j5 (h:An w T) {j:Nat×aj} (f:j∈T.js) {b:Nat} {c:Array VL} {a:TypeId} (d:w.heap[b]?=some (.cells c a (0,0))) (h1:a≠46):j.1≠b:=fun e=>by
 have:=h.box j f;rw [Bb,e,d] at this;injection this with this;injection this with _ this;exact h1 this
def An.eo (h:An w T) {b:Nat} {c:Array VL} {d:TypeId} (f:w.heap[b]?=some (.cells c d (0,0))):T.mb≠b:=fun e=>by
 obtain ⟨i,g,a⟩:=h.cls.ar;rw [e,f] at a;injection a with a;cases a
def An.og (h:An w T) (e t:Int) (a:Mod (fun k=>k=T.tb) w w') (i:w'.heap[T.tb]?=some (.cells #[.int .i64 e,.int .i64 t,.map (some T.mb),T.nv,T.jv,.pointer (some ⟨T.fb,0,none⟩),T.cv] 115 (0,0))):An w' { T with ah:=e,tick:=t }:=by
 have g:T.aw T.tb:=.inl rfl
 have b:Mod T.aw w w':=a.mono fun k _ e=>by rw [e];exact g
 refine ⟨i,h.cls.mod a (h.eo h.head),A7 h.nodes a (fun k e c=>Bo h.nodes h.head (by decide) (by rw [<- c];exact e)),A7 h.ab a (fun k e c=>Bo h.ab h.head (by decide) (by rw [<- c];exact e)),
  A7 h.ax a (fun k e c=>Bo h.ax h.head (by decide) (by rw [<- c];exact e)),fun j d=>a.ar (h.box j d) (h.j5 d h.head (by decide)),fun j d=>?_,h.one,h.two,h.dh.mod b (fun _ c=>.inl c),h.same⟩
 have f:=h.ok j d;exact f.mod b (fun _ _ c=>c) (A7 f.parts a (fun k e c=>Bo f.parts h.head (by decide) (by rw [<- c];exact e)))
def An.qd (h:An w T) (l:List Fa) (t:l.length=T.nodes.length) (d:Mod (fun k=>T.nv.ownBlock=some k) w w') (q:w'.ownsRow 0 119 3 T.nv l.length (Au Eb l)):An w' { T with nodes:=l }:=by
 have f:Mod T.aw w w':=d.mono fun k _ e=>.inr (.inr (.inl e))
 have i:∀ k,T.nv.ownBlock=some k->∃ c,w.heap[k]?=some (.cells c 119 (0,0)):=fun k e=>by
  obtain ⟨c,b,_⟩:=Cq h.nodes e;exact ⟨c,b⟩
 have a:∀ {B size n:Nat} {r:TypeId} {v:VL} {xs:List VL},w.ownsRow B r size v n xs->r≠119->∀ k,v.ownBlock=some k->¬ T.nv.ownBlock=some k:=fun q o k s c=>by
  obtain ⟨m,b⟩:=i k c;exact Bo q b o s
 refine ⟨d.ar h.head (fun c=>?_),h.cls.mod d (fun c=>?_),q,A7 h.ab d (a h.ab (by decide)),A7 h.ax d (a h.ax (by decide)),fun j g=>d.ar (h.box j g) (fun c=>?_),fun j g=>?_,h.one,h.two,h.dh.mod f (fun _ c=>.inl c),t.trans h.same⟩
 .obtain ⟨m,b⟩:=i _ c;have:=h.head;rw [b] at this;injection this with this;injection this with _ this;exact absurd this (by decide)
 .obtain ⟨m,b⟩:=i _ c;exact h.eo b rfl
 .obtain ⟨m,b⟩:=i _ c;exact h.j5 g b (by decide) rfl
 .have p:=h.ok j g;exact p.mod f (fun _ _ c=>c) (A7 p.parts d (a p.parts (by decide)))
def Atz {w:WD} {B size n:Nat} {b:TypeId} {g cap:Nat} {xs:List VL} (h:w.ownsRow B b size (.slice (some ⟨g,0,none⟩) n cap) n xs) (o:Nat) (v:VL) :
  (w.setCell ⟨g,o,none⟩ v).ownsRow B b size (.slice (some ⟨g,0,none⟩) n cap) n (xs.set o v):=by
 refine ⟨by rw [Dm];exact h.1,?_⟩;rcases h.2 with ⟨e,_⟩ | ⟨l,c,a,e,j,k,h1,d,f,i⟩
 .simp at e
 .simp at e;obtain ⟨rfl,rfl⟩:=e;refine .inr ⟨g,cap,a.setIfInBounds o v,rfl,j,Am k _ _,h1,d,by simpa using f,?_⟩;rw [<- i];simp [List.take_set]
def At0 (b:List Fa) (i j:Nat) (v:VL) (f:Fa->Fa) (d:j<3) (c:∀ x:Fa,(Eb x).toList.set j v=(Eb (f x)).toList):(Au Eb b).set (i*3+j) v=Au Eb (b.modify i f):=by
 induction b generalizing i with
 | nil=>simp [Au]
 | cons p l ih=>
  have a:∀ (q:Fa) (m:List Fa),Au Eb (q :: m)=(Eb q).toList++Au Eb m:=fun q m=>by simp [Au]
  cases i with
  | zero=>
   rw [List.modify_zero_cons,a,a,<- c p,Nat.zero_mul,Da,List.set_append];rw [Ad (by simpa using d)]
  | succ i=>
   rw [U7,a,a,<- ih,List.set_append];rw [Ac (by simp;omega)];congr 2;simp;omega
end
section
open Go.RowKit Go.Maps Go.Lib
variable {w w1 w':WD} {B:Nat}
def B9 {B:Nat} {a w:WD} (h:BW B a w) {g o:Nat} {v:VL} (c:B<=g):BW B a (w.setCell ⟨g,o,none⟩ v):=
 ⟨h.os,h.tape,h.output,by have:=h.size;simpa [World.setCell] using this,fun k b=>(Cm _ _ _ _ (fun e=>by simp at e;omega)).trans (h.block k b)⟩
def Id {n:Int} (h1:-9223372036854775808<=n) (a:n<=9223372036854775807):IntKind.i64.wrap n=n:=by
 simp [IntKind.wrap,IntKind.signed,IntKind.bits];omega
def Al.nil (w:WD) (B:Nat):Al w B (.slice none 0 0) []:=⟨rfl,.inl ⟨rfl,rfl⟩⟩
def Al.mod {S:Nat->Prop} {v:VL} {l:List Int} (h:Al w B v l) (a:Mod S w w') (b:∀ k,v.ownBlock=some k->¬ S k):Al w' B v l:=⟨A7 h.row a b⟩
def Al.lt {v:VL} {l:List Int} (h:Al w B v l):∀ k,v.ownBlock=some k->B<=k/\k<w.heap.size:=fun k a=>h.row.lt k a
def Al.le {v:VL} {l:List Int} {B':Nat} (h:Al w B v l) (a:B'<=B):Al w B' v l:=⟨Joins.ownsRow_le h.row a⟩
def Al.len {v:VL} {l:List Int} (h:Al w B v l):∃ so n c,v=.slice so n c/\n=l.length:=by
 rcases h.row.2 with ⟨rfl,h0⟩ | ⟨g,cap,a,rfl,_⟩
 .exact ⟨none,0,0,rfl,h0.symm⟩
 .exact ⟨_,_,_,rfl,rfl⟩
def Al.cell {g n c:Nat} {l:List Int} (h:Al w B (.slice (some ⟨g,0,none⟩) n c) l) {i:Nat} {x:Int} (b:l[i]?=some x):w.cell? ⟨g,i,none⟩=some (.int .i64 x):=by
 have p:=(Ao.1 b).1;rcases h.row.2 with ⟨e,_⟩ | ⟨j,cap,a,e,o,f,h1,k,m,d⟩
 .cases e
 .injection e with e1 e2 e3;injection e1 with e1;injection e1 with e1;subst e1
  have:(a.toList.take (l.length*1))[i]?=some (.int .i64 x):=by rw [d];simp [Bu,b]
  rw [Ls,Ad (by omega)] at this;simpa [World.cell?,f] using this
def Al.num {g n c:Nat} {l:List Int} (h:Al w B (.slice (some ⟨g,0,none⟩) n c) l):n=l.length:=by
 obtain ⟨so,m,a,e,b⟩:=h.len;injection e with _ e;omega
def Mo {p:Array Oper} {rest:List Oper} {o:Oper} {a:Act} {w:WD} {Q:Exit->Act->WD->Prop} (z:o.guard=none) (s x:Operand)
  (ho:o.op=.call { callee:=.builtin .append,args:=#[s,x],argTypes:=#[31,31] })
  (B L:Nat) (v:VL) (hs:a.eval s=v) {l:List Int} (f:Al w B v l) (t:l.length=L) (r:Addr) (c:Nat) (hx:a.eval x=.slice (some r) 1 c) (k:Int) (hk:w.cell? r=some (.int .i64 k)) (hL:L<=1000000000) (hb:B<=w.heap.size)
  (h:∀ g cap w',Al w' B (.slice (some ⟨g,0,none⟩) (L+1) cap) (l++[k])->w.grownBy w' v.ownBlock->(v.ownBlock=some g\/g=w.heap.size)->wpList prog p Q rest (a.put o.dst (.slice (some ⟨g,0,none⟩) (L+1) cap)) w') :
  wpList prog p Q (o :: rest) a w:=by
 obtain ⟨i3,ac,al,i,m⟩:=Cb M1;subst t;refine Q9 w z s x 31 ho B 3 i3 _ 1 8 Nn ac al i m rfl (by decide) v l.length (Bu l) hs f.row r 1 c [.int .i64 k] hx rfl ?_ (by simp [Value.oneCell']) (G4 (n:=l.length) (by omega)) (by omega) hb ?_
 .intro j u q
  match j,q with
  | 0,q=>
   simp at q;subst q;simpa [Addr.add] using hk
 .intro v' w' b d _ y;obtain ⟨g,cap,rfl⟩:=Joins.ownsRow_form b (by omega);refine h g cap w' ⟨?_⟩ d ?_
  .rw [Cn];simpa [Bu] using b
  .rcases y with e | e
   .exact .inl e.symm
   .simp [Value.ownBlock] at e;exact .inr e
structure Cw (w:WD) (B g cap:Nat) (svs:List VL) (ls:List (List Int)):Prop where
 row:w.ownsRow B 31 1 (.slice (some ⟨g,0,none⟩) ls.length cap) ls.length svs
 each:∀ (i:Nat) (sv:VL) (l:List Int),svs[i]?=some sv->ls[i]?=some l->Al w B sv l
 two:svs.Pairwise fun a b=>∀ k,a.ownBlock=some k->b.ownBlock≠some k
 qz:ls.length<=cap
variable {g cap:Nat} {svs:List VL} {ls:List (List Int)}
def Cw.len (h:Cw w B g cap svs ls):svs.length=ls.length:=by have:=h.row.1;omega
def Cw.ar (h:Cw w B g cap svs ls):B<=g/\g<w.heap.size/\∃ c,w.heap[g]?=some (.cells c 31 (0,0)):=by
 obtain ⟨c,a,b⟩:=Cq h.row (g:=g) rfl;exact ⟨b,Ab a,c,a⟩
def Cw.get (h:Cw w B g cap svs ls) {i:Nat} (d:i<ls.length):∃ so n c l,svs[i]?=some (.slice so n c)/\ls[i]?=some l/\n=l.length/\w.cell? ⟨g,i,none⟩=some (.slice so n c)/\Al w B (.slice so n c) l:=by
 have h1:svs[i]?=some (svs[i]'(by rw [h.len];exact d)):=A4 _;have b:ls[i]?=some ls[i]:=A4 _;have a:=h.each i _ _ h1 b;obtain ⟨so,n,c,e,f⟩:=a.len;rw [e] at h1 a;refine ⟨so,n,c,_,h1,b,f,?_,a⟩;rw [E6 h.row i (by omega),h1]
def Cw.ne (h:Cw w B g cap svs ls) {i:Nat} {a:VL} (d:svs[i]?=some a) {l:List Int} (e:ls[i]?=some l):a.ownBlock≠some g:=by
 obtain ⟨_,_,c,b⟩:=h.ar;exact Bo (h.each i a l d e).row b (by decide)
def Cw.low (h:Cw w B g cap svs ls) (a:BW w.heap.size w w'):Cw w' B g cap svs ls:=
 ⟨A7 h.row (Mod.af (S:=fun _=>False) a) (fun _ _ c=>c),fun i d l h1 b=>(h.each i d l h1 b).mod (Mod.af (S:=fun _=>False) a) (fun _ _ c=>c),h.two,h.qz⟩
def Cw.off {S:Nat->Prop} (h:Cw w B g cap svs ls) (c:Mod S w w') (f:¬ S g) (e:∀ (i:Nat) (a:VL),svs[i]?=some a->∀ k,a.ownBlock=some k->¬ S k):Cw w' B g cap svs ls:=
 ⟨A7 h.row c (fun k b=>by simp [Value.ownBlock] at b;subst b;exact f),fun i a l h1 d=>(h.each i a l h1 d).mod c (fun k b=>e i a h1 k b),h.two,h.qz⟩
def At1 {svs:List VL} {i:Nat} {v:VL} (h:svs.Pairwise fun a b=>∀ k,a.ownBlock=some k->b.ownBlock≠some k) (m:∀ (j:Nat) (u:VL),svs[j]?=some u->j≠i->∀ k,u.ownBlock=some k->v.ownBlock≠some k) :
  (svs.set i v).Pairwise fun a b=>∀ k,a.ownBlock=some k->b.ownBlock≠some k:=by
 refine Np.2 fun a b n o g=>?_;have d:=A4 n;have c:=A4 o;generalize (svs.set i v)[a]=ya at d ⊢;generalize (svs.set i v)[b]=yb at c ⊢;rw [Do] at d c;by_cases h1:i=a
 .subst h1;have f:i≠b:=by omega
  rw [Ac f] at c;simp only [K0] at d;split at d
  .injection d with d;subst d;intro k l e;exact m b yb c (by omega) k e l
  .cases d
 .rw [Ac h1] at d;by_cases f:i=b
  .subst f;simp only [K0] at c;split at c
   .injection c with c;subst c;intro k l e;exact m a ya d (by omega) k l e
   .cases c
  .rw [Ac f] at c;exact Fs h d c g
def Cw.put (h:Cw w B g cap svs ls) {i:Nat} {y o:VL} {l l':List Int} (r:svs[i]?=some y) (hl:ls[i]?=some l) (hg:w.grownBy w1 y.ownBlock) (ho:Al w1 B o l') (z:∀ k,o.ownBlock=some k->y.ownBlock=some k\/k=w.heap.size)
  : Cw (w1.setCell ⟨g,i,none⟩ o) B g cap (svs.set i o) (ls.set i l'):=by
 have hm:=Mod.grown hg (fun k f=>f);have t:=h.ne r hl;obtain ⟨ac,ad,c,hc⟩:=h.ar;have q:=A7 h.row hm (fun k f e=>by simp [Value.ownBlock] at f;subst f;exact t e)
 have x:o.ownBlock≠some g:=fun e=>by
  rcases z g e with e | e
  .exact t e
  .omega
 have s:=(Ao.1 r).1;have n:∀ {u:VL} {m:List Int},Al w1 B u m->u.ownBlock≠some g->Al (w1.setCell ⟨g,i,none⟩ o) B u m:=fun b hn=>⟨A7 b.row (Mod.setCell (S:=fun k=>k=g) w1 g i o rfl) (fun k f e=>hn (by rw [f,e]))⟩;refine ⟨?_,?_,?_,?_⟩
 .rw [Dm];exact (q.stored i o).1
 .intro j u m b a;rw [Do] at b a;by_cases p:i=j
  .subst p;simp only [K0] at b a;split at b
   .injection b with b;subst b;split at a
    .injection a with a;subst a;exact n ho x
    .cases a
   .rename_i hx;exact absurd s hx
  .rw [Ac p] at b a;have hj:=h.each j u m b a;refine n (hj.mod hm fun k f e=>?_) (h.ne b a);rcases Ra p with d | d
   .exact Fs h.two r b d k e f
   .exact Fs h.two b r d k f e
 .refine At1 h.two fun j u b v k f e=>?_;rcases z k e with e | e
  .rcases Ra v with d | d
   .exact Fs h.two b r d k f e
   .exact Fs h.two r b d k e f
  .have:j<ls.length:=by rw [<- h.len];exact (Ao.1 b).1
   have:=((h.each j u _ b (A4 this)).lt k f).2;omega
 .rw [Dm];exact h.qz
end
section
open Go.RowKit Go.Maps Go.Lib
variable{d:Nat}{u v:V4}{w wr:WD}
def Abk (n:Int) (w:WD):CS prog 297 #[.int .i64 n] w fun e w'=>e=.returned (.int .i64 (E2 n))/\w'=w:=by
 go_enter func297,ntmps297;go_wp2;go_ret;exact ⟨Abj (by simp [E2]),rfl⟩
def Pn (n:Int):0<=E2 n/\E2 n<=1152921504606846976:=by unfold E2;omega
def Po (d:Nat) (u v:V4):V4:=⟨if 0<d then Ju u.a v.a else 0,if 1<d then Ju u.b v.b else 0,if 2<d then Ju u.c v.c else 0,if 3<d then Ju u.d v.d else 0⟩
structure qu (w:WD) (u v:V4) (d:Nat) (wr:WD):Prop where
 low:BW w.heap.size w wr
 b1:wr.heap[w.heap.size]?=some (.cells u.cells 30 (0,0))
 b2:wr.heap[w.heap.size+1]?=some (.cells v.cells 30 (0,0))
 res:wr.heap[w.heap.size+2]?=some (.cells V4.zero.cells 30 (0,0))
 acc:wr.heap[w.heap.size+3]?=some (.cells (Po d u v).cells 30 (0,0))
def qu.next {w wr w':WD}   (h:qu w u v d wr) (a:BW wr.heap.size wr w'):qu w u v d w':=
 ⟨h.low.trans (a.mono h.low.size),Ae a h.b1 (Ab h.b1),Ae a h.b2 (Ab h.b2),Ae a h.res (Ab h.res),Ae a h.acc (Ab h.acc)⟩
def qu.set    (h:qu w u v d wr) (a:d<4):qu w u v (d+1) (wr.setCell ⟨w.heap.size+3,d,none⟩ (.int .i64 (Ju (u.get d) (v.get d)))):=
 ⟨B9 h.low (by omega),(Cm _ _ _ _ (fun e=>by simp at e)).trans h.b1,(Cm _ _ _ _ (fun e=>by simp at e)).trans h.b2,(Cm _ _ _ _ (fun e=>by simp at e)).trans h.res,by
  have e:(Po d u v).cells.setIfInBounds d (.int .i64 (Ju (u.get d) (v.get d)))=(Po (d+1) u v).cells:=by rcases (by omega:d=0\/d=1\/d=2\/d=3) with rfl | rfl | rfl | rfl<;>simp [Po,V4.get]
  rw [<- e];exact Am h.acc _ _⟩
def Uo  {b:Nat}  {T:TypeId} {fr:Nat×Nat} (h:w.heap[b]?=some (.cells v.cells T fr))  (a:d<4):w.cell? ⟨b,d,none⟩=some (.int .i64 (v.get d)):=by
 rw [Aa h d]
 rcases (by omega:d=0\/d=1\/d=2\/d=3) with rfl | rfl | rfl | rfl<;>rfl
def Auh (u v:V4)  (a:d<4):(Po d u v).get d=0:=by
 rcases (by omega:d=0\/d=1\/d=2\/d=3) with rfl | rfl | rfl | rfl<;>simp [Po,V4.get]
def Aig (u v:V4) (w:WD):CS prog 252 #[u.val,v.val] w fun e w'=>e=.returned (Kg u v).val/\BW w.heap.size w w':=by
 obtain ⟨W0,h⟩:=Ex ((((w.alloc (.cells u.cells 30)).alloc (.cells v.cells 30)).alloc (.cells #[.int .i64 0,.int .i64 0,.int .i64 0,.int .i64 0] 30)).alloc (.cells #[.int .i64 0,.int .i64 0,.int .i64 0,.int .i64 0] 30));have g:qu w u v 0 W0:=by rw [h];exact ⟨((Bn.alloc (by simp) _).alloc (by simp;omega) _).alloc (by simp;omega) _,Aj _ (Aj _ (Aj _ (Ah _ _))),Aj _ (Aj _ (A3 _ _ (by simp))),Aj _ (A3 _ _ (by simp)),A3 _ _ (by simp)⟩
 replace g:=Hh g;go_enter func252,ntmps252;go_upto_region 2 with fail;rw [<- h];clear h;go_wp2_with fail;go_loopw [6,7] (fun _ iv wr=>∃ (d:Nat),iv=.int .i64 d/\d<=4/\Hid (qu w u v d wr)) (fun _ iv _=>4-(intOf iv).toNat)
 case atStart=>exact ⟨0,rfl,by omega,g⟩
 case round=>
  obtain ⟨d,rfl,al,b⟩:=hrel;by_cases c:d<4
  .have ac:(d:Int)<4:=(by omega);have ad:(0:Int)<=(d:Int):=(by omega);obtain ⟨x,p⟩:=Ex (u.get d);obtain ⟨y,q⟩:=Ex (v.get d);have u0:=p▸Uo b.b1 c;have v0:=q▸Uo b.b2 c;have z0:=(Uo b.acc c).trans (by rw [Auh _ _ c]);have fr:=Af b.acc
   have i:∀ n,qu w u v (d+1) ((wr.drewN n).setCell ⟨w.heap.size+3,d,none⟩ (.int .i64 (Ju x y))):=fun n=>by
    rw [p,q];exact (b.next (A9 _ wr n)).set c
   have r:=Abk x;have s:=Abk y
   have m:∀ W,CS prog 297 #[.int .i64 (IntKind.i64.wrap (E2 x+E2 y))] W fun e w'=>e=.returned (.int .i64 (Ju x y))/\w'=W:=by rw [Id (by have:=Pn x;have:=Pn y;omega) (by have:=Pn x;have:=Pn y;omega)];exact Abk (E2 x+E2 y)
   obtain ⟨r1,j⟩:=Ex (E2 x);obtain ⟨r2,k⟩:=Ex (E2 y);obtain ⟨r3,l⟩:=Ex (Ju x y);rw [<- j] at r m;rw [<- k] at s m;rw [<- l] at m i;replace ⟨i,r,s,m,j,k,l,p⟩:=H8 i r s m j k l p;replace q:=Hh q;go_upto_region 5 with fail
   go_region_with (first
    | (go_at_call 297;((with_reducible refine (r.out _).mono ?_);rintro e w1 ⟨rfl,rfl⟩))
    | (go_at_call 297;((with_reducible refine (s.out _).mono ?_);rintro e w1 ⟨rfl,rfl⟩))
    | (go_at_call 297;((with_reducible refine (m.out _).mono ?_);rintro e w1 ⟨rfl,rfl⟩)))
   all_goals
    go_wp2_with fail;go_roundw
    case rel=>exact ⟨d+1,by go_num,by omega,Hh (by first | exact i.out 0 | exact i.out 1 | exact i.out 2 | exact i.out 3)⟩
    case measure=>simp [intOf];omega
  .have t:d=4:=(by omega);subst t;obtain ⟨z,o⟩:=Ex (Po 4 u v);have f:z=Kg u v:=(by rw [o];simp [Po,Kg]);rw [f] at o;obtain ⟨za,zb,zc,zd⟩:=z;have a:=b.acc;rw [<- o,<- f] at a;have u0:=Bk a 0 (.int .i64 za) rfl;have u1:=Bk a 1 (.int .i64 zb) rfl;have u2:=Bk a 2 (.int .i64 zc) rfl;have u3:=Bk a 3 (.int .i64 zd) rfl;have r0:=Bk b.res 0 (.int .i64 0) rfl;have r1:=Bk b.res 1 (.int .i64 0) rfl;have r2:=Bk b.res 2 (.int .i64 0) rfl;have r3:=Bk b.res 3 (.int .i64 0) rfl;have fr:=Af b.res;replace ⟨o,f,a⟩:=H3 o f a;go_wp2;refine Ak (v:=V4.val ⟨za,zb,zc,zd⟩) (by simp [results,results252,go_sem,r0,r1,r2,r3]) rfl ⟨by rw [<- f.out],?_⟩;exact B9 (B9 (B9 (B9 b.low (by omega)) (by omega)) (by omega)) (by omega)
end
section
open Go.ChangeShapes Go.WideShapes Go.ChangeAt Go.RowKit
def On {n:Int} (h:(Lit.int .i64 n).wf=true):-9223372036854775808<=n/\n<=9223372036854775807:=by
 simp [Lit.wf,IntKind.min,IntKind.max,IntKind.signed,IntKind.bits] at h;omega
def Ayq:prog.cellsOf 4=1:=by kernel_rfl
def Ayr:prog.cellsOf 31=1:=by kernel_rfl
def Akt:prog.cellsOf 33=13:=by kernel_rfl
def Ays {α:Type} {l:List α} (h:l.length=13):∃ a b c d e f g i j k m n o,l=[a,b,c,d,e,f,g,i,j,k,m,n,o]:=by
 match l,h with
 | [a,b,c,d,e,f,g,i,j,k,m,n,o],_=>exact ⟨a,b,c,d,e,f,g,i,j,k,m,n,o,rfl⟩
section
variable {H:Type} {enc:TypeId×VL->H} {w:WD} {held:Bool} {fuel:Nat} {cs:List VL} {x:DataW H×List MemPlace}
def Ayt {c:VL} (h:DataW.trod enc prog w 0 (fun _=>true) held fuel 31 [c]=some x):∃ a n d xs,c=.slice a n d/\Ar w a n xs/\n<=d:=by
 obtain ⟨a,n,d,xs,e,g,l⟩:=Z6 (0:Int) (fun s=>#[.int .i64 s]) 1 (fun _ _=>True) Nn Qc (by decide) (fun _=>rfl) (fun fuel cs x h=>by
  obtain ⟨s,e,_⟩:=In D2 h
  exact ⟨s,e,trivial⟩) h
 refine ⟨a,n,d,xs,e,⟨g.len,g.max,fun i x m=>?_⟩,l⟩;obtain ⟨b,j,e,f,k,_⟩:=g.cell i x m;have:=k 0 (by omega);rw [Rm,Io] at this;exact ⟨b,j,e,f,this⟩
def Ayu (h:DataW.trod enc prog w 0 (fun _=>true) held fuel 33 cs=some x):∃ a:ay,cs=a.cells.toList/\a.ok w:=by
 obtain ⟨xs,n,_,rfl,hl,c,b⟩:=DataW.trod_struct underlying33 h;rw [Akt] at hl;obtain ⟨c0,c1,c2,c3,c4,c5,c6,c7,c8,c9,ac,ad,al,rfl⟩:=Ays hl
 match xs,c with
 | [y0,y1,y2,y3,y4,y5,y6,y7,y8,y9],_=>
  have h0:=b 0 _ rfl;have h1:=b 1 _ rfl;have s:=b 2 _ rfl;have t:=b 3 _ rfl;have u:=b 4 _ rfl;have y:=b 5 _ rfl;have z:=b 6 _ rfl;have h7:=b 7 _ rfl;have h8:=b 8 _ rfl;have h9:=b 9 _ rfl;simp [An3,Aem,Qc,Ayq,Ayr] at h0 h1 s t u y z h7 h8 h9;obtain ⟨s0,g,_,e⟩:=DataW.trod_string Eg h0;obtain ⟨s1,i,_,f⟩:=DataW.trod_string Eg h1;obtain ⟨n2,j,_⟩:=In D2 s;obtain ⟨v,r⟩:=An7 t;obtain ⟨n4,k,_⟩:=In D2 u;obtain ⟨n5,l,_⟩:=In D2 y;obtain ⟨n6,o,_⟩:=In D2 z;obtain ⟨n7,p,_⟩:=In D2 h7;obtain ⟨b8,q,_⟩:=DataW.trod_bool Ac3 h8;obtain ⟨so,m,cp,zs,rfl,hz,d⟩:=Ayt h9;simp at g i j r k l o p q;obtain ⟨rfl,rfl,rfl,rfl⟩:=r;subst g i j k l o p q;exact ⟨⟨⟨s0,s1,n2,v,n4,n5,n6,n7,b8,zs⟩,so,m,cp⟩,rfl,⟨hz,d,e,f⟩⟩
end
section
variable {H:Type} {enc:TypeId×VL->H} {w:WD} {held:Bool} {b0:Nat} {r:Reach} {v:VL} {d:DataW H} {p:List MemPlace}
