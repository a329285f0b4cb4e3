/- Parts of a proof. No condition. -/
import Derived.Test.YtimlcnhcjndijaaGreatDoorG13
import Derived.Test.YtimlcnhcjndijaaGreatDoorG15
import Derived.Test.YtimlcnhcjndijaaGreatDoorG16
set_option linter.all false
set_option maxRecDepth 100000
set_option maxHeartbeats 3200000
namespace Go.Proofs.YtimlcnhcjndijaaGreatDoor
open Option renaming none->I,some->Z
open Obj renaming cells->V
open IntKind renaming i64->O
open Value renaming int->G,slice->J,string->Y,bool->D,pointer->Q
open Ending renaming returned->K
open Go renaming World->WD,Value->VL,Calls->CS
open Go.RowKit renaming Below->BW
open Go.Proofs.Tryz
section
open Go.RowKit Go.Maps Go.Lib
structure Mod (S:Nat->Prop) (w w':WD):Prop where
 os:w'.os=w.os
 tape:w'.tape=w.tape
 output:w'.output=w.output
 size:w.heap.size<=w'.heap.size
 block:∀k,k<w.heap.size->¬S k->w'.heap[k]?=w.heap[k]?
def Mod.refl (S:Nat->Prop) (w:WD):Mod S w w:=⟨rfl,rfl,rfl,Nat.le_refl _,λ_ _ _=>rfl⟩
def Mod.ag {S:Nat->Prop} {w w':WD} (h:BW w.heap.size w w'):Mod S w w':=⟨h.os,h.tape,h.output,h.size,λk a _=>h.block k a⟩
def Mod.mono {S S':Nat->Prop} {w w':WD} (h:Mod S w w') (d:∀k,k<w.heap.size->S k->S' k):Mod S' w w':=⟨h.os,h.tape,h.output,h.size,λk a b=>h.block k a λc=>b (d k a c)⟩
def Mod.then {S S':Nat->Prop} {w w1 e:WD} (h:Mod S w w1) (a:Mod S' w1 e) (f:∀k,k<w.heap.size->S' k->S k):Mod S w e:=
 ⟨a.os.trans h.os,a.tape.trans h.tape,a.output.trans h.output,Ay h.size a.size,λk b d=>
  (a.block k (By b h.size) λc=>d (f k b c)).trans (h.block k b d)⟩
def Mod.trans {S:Nat->Prop} {w w1 a:WD} (h:Mod S w w1) (b:Mod S w1 a):Mod S w a:=h.then b λ_ _ c=>c
def Mod.low {S:Nat->Prop} {w w1 a:WD} (h:Mod S w w1) (b:BW w1.heap.size w1 a):Mod S w a:=h.trans (Mod.ag b)
def Mod.setCell {S:Nat->Prop} (w:WD) (b o:Nat) (v:VL) (a:S b):Mod S w (w.setCell ⟨b,o,I⟩ v):=
 ⟨rfl,rfl,rfl,by simp[World.setCell],λk _ c=>Cm _ _ _ _ (λe=>c (e▸a))⟩
def Mod.set {S:Nat->Prop} {w w1:WD} (h:Mod S w w1) (b o:Nat) (v:VL) (a:S b):Mod S w (w1.setCell ⟨b,o,I⟩ v):=h.trans (Mod.setCell w1 b o v a)
def Mod.grown {S:Nat->Prop} {w w':WD} {row:Option Nat} (h:w.grownBy w' row) (c:∀k,row=Z k->S k):Mod S w w':=
 ⟨h.os,h.tape,h.output,h.size,λk a b=>h.block k a λe=>b (c k e.symm)⟩
def Mod.alloc (S:Nat->Prop) (w:WD) (o:Obj):Mod S w (w.alloc o):=Mod.ag Bn
def Mod.drew {S:Nat->Prop} {w w':WD} (h:Mod S w w'):Mod S w w'.drew:=⟨h.os,h.tape,h.output,h.size,h.block⟩
def Mod.below {S:Nat->Prop} {B:Nat} {w w':WD} (h:Mod S w w') (b:B<=w.heap.size) (a:∀k,S k->B<=k):BW B w w':=
 ⟨h.os,h.tape,h.output,h.size,λk d=>h.block k ao9 λc=>by have:=a k c;omega⟩
def Mod.aw {S:Nat->Prop} {k:Nat} {w w':WD} {o:Obj} (h:Mod S w w') (a:w.heap[k]?=Z o) (b:¬S k):w'.heap[k]?=Z o:=(h.block k (Ab a) b).trans a
def Bb {S:Nat->Prop} {w w':WD} {B size n:Nat} {T:TypeId} {v:VL} {xs:List VL} (h:w.ownsRow B T size v n xs) (d:Mod S w w') (f:∀k,v.ownBlock=Z k->¬S k):w'.ownsRow B T size v n xs:=by
 refine⟨h.1,?_⟩;rcases h.2 with e|⟨g,cap,a,rfl,c,b,rest⟩
 .exact .inl e
 .exact .inr ⟨g,cap,a,rfl,c,d.aw b (f g rfl),rest⟩
def C8 {w:WD} {B size n:Nat} {T:TypeId} {v:VL} {xs:List VL} (h:w.ownsRow B T size v n xs) {g:Nat} (b:v.ownBlock=Z g):∃a,w.heap[g]?=Z (V a T (0,0))/\B<=g:=by
 rcases h.2 with⟨rfl,_⟩|⟨e,cap,a,rfl,d,c,_⟩
 .simp [Value.ownBlock]at b
 .simp [Value.ownBlock]at b;subst b;exact⟨a,c,d⟩
def Bq {w:WD} {B size n:Nat} {T f:TypeId} {v:VL} {xs:List VL} (h:w.ownsRow B T size v n xs) {b:Nat} {c:Array VL} {fr:Nat×Nat} (a:w.heap[b]?=Z (V c f fr)) (d:T≠f):v.ownBlock≠Z b:=λe=>by
 obtain⟨g,i,_⟩:=C8 h e;rw[i]at a;injection a with a;injection a with _ a;exact d a
def Aqp {w:WD} {B size n:Nat} {T:TypeId} {v:VL} {xs:List VL} (h:w.ownsRow B T size v n xs) {b:Nat} {f:Array MapEntry} {c:Nat} (a:w.heap[b]?=Z (.map f c)):v.ownBlock≠Z b:=λe=>by
 obtain⟨d,g,_⟩:=C8 h e;rw[g]at a;injection a with a;cases a
structure Ec (w:WD) (S:Nat->Prop) (so:Option Addr) (n:Nat) (l:List Int):Prop where
 row:Ap w so n l
 off:0<n->∀b o,so=Z ⟨b,o,I⟩->¬S b
def Ec.mod {S S':Nat->Prop} {w w':WD} {so:Option Addr} {n:Nat} {l:List Int} (h:Ec w S so n l) (g:Mod S w w') (q:∀k,k<w.heap.size->S' k->S k):Ec w' S' so n l:=
 ⟨⟨h.row.len,h.row.max,λi x d=>by
  obtain⟨b,c,e,a,p⟩:=h.row.cell i x d;have s:=(Aq.1 d).1;refine⟨b,c,e,By a g.size,?_⟩;rw[<-p]
  simp only[World.cell?,g.block b a (h.off (by have:=h.row.len;omega) b c e)]⟩,λh0 b o e m=>by
  obtain⟨x,d⟩:=h.row.get (i:=0) h0;obtain⟨r,j,f,a,_⟩:=h.row.cell 0 x d;rw[e]at f;cases f
  exact h.off h0 b o e (q b a m)⟩
def Agy (w:WD) (S:Nat->Prop):Ec w S I 0 []:=⟨U2 w,λh=>absurd h ao9⟩
abbrev Fz (p:Int×Int):Array VL:=#[G O p.1,G O p.2]
structure ar where
 pl:Jb
 so:Option Addr
 sn:Nat
 sc:Nat
 go:Option Addr
 gn:Nat
 gc:Nat
 po:Option Addr
 pn:Nat
 pc:Nat
abbrev ar.cells (x:ar):Array VL:=#[G O x.pl.id,Y x.pl.sp.user,Y x.pl.sp.part,G O x.pl.sp.nodes,G O x.pl.sp.df.a,G O x.pl.sp.df.b,G O x.pl.sp.df.c,G O x.pl.sp.df.d,G O x.pl.sp.wall,G O x.pl.sp.prio,G O x.pl.sp.array,G O x.pl.sp.ae,D x.pl.sp.held,J x.so x.sn x.sc,G O x.pl.lf.st,G O x.pl.lf.bp,G O x.pl.lf.left,D x.pl.lf.wall,D x.pl.lf.stop,G O x.pl.start,J x.go x.gn x.gc,J x.po x.pn x.pc]
abbrev ar.val (x:ar):VL:=.agg #[G O x.pl.id,Y x.pl.sp.user,Y x.pl.sp.part,G O x.pl.sp.nodes,G O x.pl.sp.df.a,G O x.pl.sp.df.b,G O x.pl.sp.df.c,G O x.pl.sp.df.d,G O x.pl.sp.wall,G O x.pl.sp.prio,G O x.pl.sp.array,G O x.pl.sp.ae,D x.pl.sp.held,J x.so x.sn x.sc,G O x.pl.lf.st,G O x.pl.lf.bp,G O x.pl.lf.left,D x.pl.lf.wall,D x.pl.lf.stop,G O x.pl.start,J x.go x.gn x.gc,J x.po x.pn x.pc]
def ar.pb (x:ar):Option Nat:=(Value.slice x.po x.pn x.pc).ownBlock
def Bc (w:WD) (b:Nat) (x:ar):Prop:=w.heap[b]?=Z (V x.cells 46 (0,0))
def Bv (w:WD) (x:ar):Prop:=w.ownsRow 0 65 2 (J x.po x.pn x.pc) x.pn (Av Fz x.pl.parts)
structure Np (w:WD) (S:Nat->Prop) (x:ar):Prop where
 after:Ec w S x.so x.sn x.pl.sp.after
 pz:x.sn<=x.sc
 ak:Ec w S x.go x.gn x.pl.ak
 oh:x.gn<=x.gc
 parts:Bv w x
 user:x.pl.sp.user.size<=maxLen
 part:x.pl.sp.part.size<=maxLen
def ar.zero:ar:=⟨⟨0,dm.zero,Lf.zero,0,[],[]⟩,I,0,0,I,0,0,I,0,0⟩
def ar.bm (x:ar) (l:Lf):ar:={ x with pl:={ x.pl with lf:=l } }
def ar.bare (x:ar):ar:={ x with pl:=x.pl.bare,go:=I,gn:=0,gc:=0 }
def Agz (p:Int×Int):(Fz p).size=2:=rfl
def Ji {w:WD} {x:ar} (h:Bv w x):x.pl.parts.length=x.pn:=by
 have:=h.1
 have e:(Av Fz x.pl.parts).length=x.pl.parts.length*2:=by
  induction x.pl.parts with
  | nil=>rfl
  | cons p l ih=>simp[Av]at ih ⊢;omega
 omega
abbrev Ej (x:Er):Array VL:=#[D x.up,D x.bq,G O x.since]
def Gu (c:Cl):VL:=.agg #[G O c.seq,G O c.e,G O c.first,G O c.last]
structure Tv where
 tb:Nat
 mb:Nat
 nv:VL
 jv:VL
 fb:Nat
 fm:Nat
 fl:Nat
 cv:VL
 ai:Int
 tick:Int
 cls:List (Int×Cl)
 nodes:List Er
 js:List (Nat×ar)
 vs:List ax
def Tv.pl (T:Tv):du:=⟨T.ai,T.tick,T.cls,T.nodes,T.js.map λj=>j.2.pl⟩
def Tv.az (T:Tv) (b:Nat):Prop:=b=T.tb\/b=T.mb\/T.nv.ownBlock=Z b\/T.jv.ownBlock=Z b\/∃j,j∈T.js/\(j.1=b\/j.2.pb=Z b)
def nw (c:Cl):DU:=.agg [.lit (.int O c.seq),.lit (.int O c.e),.lit (.int O c.first),.lit (.int O c.last)]
def F0 (n:Int):Lit:=.int O n
def Cl.zero:Cl:=⟨0,0,0,0⟩
def Aqq {c d:Cl} (h:Gu c=Gu d):c=d:=by
 obtain⟨a1,a2,a3,f⟩:=c;obtain⟨g,i,j,k⟩:=d;simp[Gu]at h;obtain⟨h1,a,b,e⟩:=h;subst h1 a b e;rfl
def Aqr {c d:Cl} (h:nw c=nw d):c=d:=by
 obtain⟨a1,a2,a3,f⟩:=c;obtain⟨g,i,j,k⟩:=d;simp[nw]at h;obtain⟨h1,a,b,e⟩:=h;subst h1 a b e;rfl
open Classical in
noncomputable def Ps (v:VL):Option (DU×List MemPlace):=if h:∃c,v=Gu c then Z (nw h.choose,[])else I
def Ag0 (c:Cl):Ps (Gu c)=Z (nw c,[]):=by
 unfold Ps;have h:∃d,Gu c=Gu d:=⟨c,rfl⟩;rw[Mb h,<-Aqq h.choose_spec]
def Aqs {v:VL} {z:DU×List MemPlace} (h:Ps v=Z z):∃c,v=Gu c/\z=(nw c,[]):=by
 unfold Ps at h;split at h
 .rename_i a;injection h with h;exact⟨a.choose,a.choose_spec,h.symm⟩
 .cases h
def Aqt {v:VL} {c:Cl} {a:List MemPlace} (h:Ps v=Z (nw c,a)):v=Gu c:=by
 obtain⟨d,rfl,e⟩:=Aqs h;injection e with e _;rw[Aqr e]
def Jj (l:List (Int×Cl)):DU:=.map (l.map λp=>(F0 p.1,nw p.2))
def E0 (l:List (Int×Cl)) (id:Int):Cl:=((l.find? λp=>decide (p.1=id)).map Prod.snd).getD Cl.zero
def Lh (x:Int×Cl):List (Int×Cl)->List (Int×Cl)
 | []=>[x]
 | y :: r=>if x.1<y.1 then x :: y :: r else y :: Lh x r
def Ib (l:List (Int×Cl)) (id:Int) (c:Cl):List (Int×Cl):=Lh (id,c) (l.filter λp=>!decide (p.1=id))
def Aqu (x:Int×Cl) (l:List (Int×Cl)):DataW.insert (H:=Unit) (F0 x.1,nw x.2) (l.map λp=>(F0 p.1,nw p.2))=(Lh x l).map λp=>(F0 p.1,nw p.2):=by
 induction l with
 | nil=>rfl
 | cons y r ih=>
  simp only[It,DataW.insert,Lh];by_cases h:x.1<y.1
  .have a:(F0 x.1).before (F0 y.1)=true:=(by simp[F0,Lit.before,h]);rw[Ad h,Ad a];rfl
  .have a:(F0 x.1).before (F0 y.1)=false:=(by simp[F0,Lit.before];omega);rw[Ac h,a];simp[ih]
def Ag1 (a b:Int):(F0 a).sameKey (F0 b)=decide (a=b):=by simp[F0,Lit.sameKey]
def Aqv (l:List (Int×Cl)) (a:Int) (c:Cl):(Jj l).put (F0 a) (nw c)=Jj (Ib l a c):=by
 unfold Jj Ib;simp only[DataW.put];rw[<-Aqu,List.filter_map];simp[Ip,Ag1]
def Aqw (l:List (Int×Cl)) (a:Int):(Jj l).atKey (F0 a) (nw Cl.zero)=nw (E0 l a):=by
 unfold Jj E0;simp only[DataW.atKey];rw[List.find?_map];simp only[Ip,Ag1]
 cases List.find? (λp:Int×Cl=>decide (p.1=a)) l<;>rfl
def Aqx {w:WD} {P:Program} {k:TypeId} {R:VL->Option (DU×List MemPlace)} {b n:Nat} {l:List (Lit×DU)} (h:w.ownsMap P k R b n (.map l)):w.ownsMap P k R b l.length (.map l):=by
 obtain⟨d,a,e,F,f,c⟩:=h;refine⟨d,a,e,F,?_,c⟩;injection c with c;rw[c,length_sorted];simp
def Li (w:WD) (mb:Nat) (l:List (Int×Cl)):Prop:=w.ownsMap (H:=Unit) prog 3 Ps mb l.length (Jj l)
def Li.aw {w:WD} {c:Nat} {l:List (Int×Cl)} (h:Li w c l):∃b d,w.heap[c]?=Z (.map b d):=by
 obtain⟨b,a,e,_⟩:=h;exact⟨b,a,e⟩
def Li.mod {S:Nat->Prop} {w w':WD} {b:Nat} {l:List (Int×Cl)} (h:Li w b l) (f:Mod S w w') (g:¬S b):Li w' b l:=by
 obtain⟨c,a,e,F,i,d⟩:=h;exact⟨c,a,f.aw e g,F,i,d⟩
structure Sx (w:WD) (S:Nat->Prop) (fb fm fl:Nat) (vs:List ax):Prop where
 ex:∃w0,kq w0 fb fm fl vs/\BW w0.heap.size w0 w/\∀b,S b->w0.heap.size<=b
 ok:Iy vs
def Sx.yx {w:WD} {S:Nat->Prop} {a c b:Nat} {vs:List ax} (h:Sx w S a c b vs):kq w a c b vs:=by
 obtain⟨e,h1,d,_⟩:=h.ex;exact h1.below d
def Sx.mod {S S':Nat->Prop} {w w':WD} {a e d:Nat} {vs:List ax} (h:Sx w S a e d vs) (j:Mod S w w') (l:∀k,S' k->S k\/w.heap.size<=k):Sx w' S' a e d vs:=by
 obtain⟨n,h1,f,g⟩:=h.ex;have m:=f.size;refine⟨⟨n,h1,f.trans (j.below m g),λb i=>?_⟩,h.ok⟩;rcases l b i with c|c
 .exact g b c
 .omega
structure An (w:WD) (T:Tv):Prop where
 head:w.heap[T.tb]?=Z (V #[G O T.ai,G O T.tick,.map (Z T.mb),T.nv,T.jv,Q (Z ⟨T.fb,0,I⟩),T.cv] 115 (0,0))
 cls:Li w T.mb T.cls
 nodes:w.ownsRow 0 119 3 T.nv T.nodes.length (Av Ej T.nodes)
 ab:w.ownsRow 0 125 1 T.jv T.js.length (T.js.map λj=>Q (Z ⟨j.1,0,I⟩))
 bh:w.ownsRow 0 30 4 T.cv T.vs.length (Av V4.cells (T.vs.map ax.cap))
 box:∀j,j∈T.js->Bc w j.1 j.2
 ok:∀j,j∈T.js->Np w T.az j.2
 one:(T.js.map Prod.fst).Nodup
 two:T.js.Pairwise λx y=>∀b,x.2.pb=Z b->y.2.pb≠Z b
 dn:Sx w T.az T.fb T.fm T.fl T.vs
 same:T.nodes.length=T.vs.length
variable {w w':WD} {T:Tv}
def An.tz (h:An w T) {j:Nat×ar} (e:j∈T.js) {b:Nat} (a:j.2.pb=Z b):∃c,w.heap[b]?=Z (V c 65 (0,0)):=by
 obtain⟨c,d,_⟩:=C8 (h.ok j e).parts a;exact⟨c,d⟩
def An.oi (h:An w T) {b:Nat} (c:T.az b):b<w.heap.size:=by
 rcases c with rfl|rfl|e|e|⟨j,a,e|e⟩
 .exact Ab h.head
 .exact h.cls.lt
 .exact (Qm h.nodes b e).2
 .exact (Qm h.ab b e).2
 .exact e▸Ab (h.box j a)
 .exact (Qm (h.ok j a).parts b e).2
def Np.mod {S S':Nat->Prop} {x:ar} (h:Np w S x) (a:Mod S w w') (b:∀k,k<w.heap.size->S' k->S k) (c:Bv w' x):Np w' S' x:=
 ⟨h.after.mod a b,h.pz,h.ak.mod a b,h.oh,c,h.user,h.part⟩
def An.low (h:An w T) (e:BW w.heap.size w w'):An w' T:=by
 have a:Mod (λ_=>False) w w':=Mod.ag e;have b:Mod T.az w w':=Mod.ag e
 exact⟨a.aw h.head (λc=>c),h.cls.mod a (λc=>c),Bb h.nodes a (λ_ _ c=>c),Bb h.ab a (λ_ _ c=>c),Bb h.bh a (λ_ _ c=>c),
  λj d=>a.aw (h.box j d) (λc=>c),λj d=>(h.ok j d).mod b (λ_ _ c=>c) (Bb (h.ok j d).parts a (λ_ _ c=>c)),h.one,h.two,h.dn.mod b (λ_ c=>.inl c),h.same⟩
def Gd (j:Nat×ar) (b:Nat):Prop:=b=j.1\/j.2.pb=Z b
def Tv.bz (T:Tv) (i:Nat) (j:Nat×ar):Tv:={ T with js:=T.js.set i j }
def Sy {i:Nat} {j x:Nat×ar} (d:T.js[i]?=Z x) (c:j.1=x.1) {b:Nat} (h:(T.bz i j).az b):T.az b\/j.2.pb=Z b:=by
 rcases h with e|e|e|e|⟨k,a,e⟩
 .exact .inl (.inl e)
 .exact .inl (.inr (.inl e))
 .exact .inl (.inr (.inr (.inl e)))
 .exact .inl (.inr (.inr (.inr (.inl e))))
 .rcases Wk a with a|rfl
  .exact .inl (.inr (.inr (.inr (.inr ⟨k,a,e⟩))))
  .rcases e with e|e
   .exact .inl (.inr (.inr (.inr (.inr ⟨x,Ai d,.inl (c.symm.trans e)⟩))))
   .exact .inr e
def F1 {α:Type} {R:α->α->Prop} {l:List α} (h:l.Pairwise R) {i k:Nat} {x y:α} (c:l[i]?=Z x) (d:l[k]?=Z y) (a:i<k):R x y:=by
 obtain⟨h1,rfl⟩:=Aq.1 c;obtain⟨b,rfl⟩:=Aq.1 d;exact O7.1 h i k h1 b a
def An.apart (h:An w T) {i k:Nat} {x y:Nat×ar} (d:T.js[i]?=Z x) (f:T.js[k]?=Z y) (c:i≠k):x.1≠y.1/\∀b,x.2.pb=Z b->y.2.pb≠Z b:=by
 have h1:(T.js.map Prod.fst)[i]?=Z x.1:=by simp[d]
 have j:(T.js.map Prod.fst)[k]?=Z y.1:=by simp[f]
 rcases R3 c with a|a
 .exact ⟨λe=>F1 h.one h1 j a e,F1 h.two d f a⟩
 .exact ⟨λe=>F1 h.one j h1 a e.symm,λb l g=>F1 h.two f d a b g l⟩
def An.bz (h:An w T) {i:Nat} {x j:Nat×ar} (hx:T.js[i]?=Z x) (hb:j.1=x.1) (hm:Mod (Gd x) w w') (al:Bc w' j.1 j.2) (hp:Bv w' j.2)
  (ad:∀b,j.2.pb=Z b->x.2.pb=Z b\/w.heap.size<=b)
  (ha:Ec w' (T.bz i j).az j.2.so j.2.sn j.2.pl.sp.after) (aF:j.2.sn<=j.2.sc) (hg:Ec w' (T.bz i j).az j.2.go j.2.gn j.2.pl.ak) (aH:j.2.gn<=j.2.gc)
  (hu:j.2.pl.sp.user.size<=maxLen) (aJ:j.2.pl.sp.part.size<=maxLen):An w' (T.bz i j):=by
 have u:=Ai hx;have ap:=h.box x u;have hJ:∀b,Gd x b->T.az b:=λb c=>.inr (.inr (.inr (.inr ⟨x,u,c.imp (λe=>e.symm) id⟩)));have am:=hm.mono λb _ c=>hJ b c
 have ao:∀k,k<w.heap.size->(T.bz i j).az k->T.az k:=λk d c=>by
  rcases Sy hx hb c with c|c
  .exact c
  .rcases ad k c with c|c
   .exact hJ k (.inr c)
   .omega
 have n1:∀(o:Obj) (k:Nat),w.heap[k]?=Z o->(∀c fr,o≠V c 46 fr)->(∀c fr,o≠V c 65 fr)->¬Gd x k:=λo k d h1 h2 c=>by
  rcases c with rfl|c
  .rw [ap]at d;injection d with d;exact h1 _ _ d.symm
  .obtain ⟨c',g⟩:=h.tz u c;rw[g]at d;injection d with d;exact h2 _ _ d.symm
 have r:∀ {B size n:Nat} {Ty:TypeId} {v:VL} {xs:List VL},w.ownsRow B Ty size v n xs->Ty≠46->Ty≠65->∀k,v.ownBlock=Z k->¬Gd x k:=λhr e1 e2 k d=>by
  obtain⟨aK,g,_⟩:=C8 hr d;exact n1 _ _ g (λc fr e=>by injection e with _ e;exact e1 e) (λc fr e=>by injection e with _ e;exact e2 e)
 obtain⟨es,cl,an⟩:=h.cls.aw
 have s:∀k y,T.js[k]?=Z y->k≠i->Bc w' y.1 y.2/\Bv w' y.2:=λk y q d=>by
  have av:=h.apart q hx d;have z:=Ai q;refine⟨hm.aw (h.box y z) λc=>?_,Bb (h.ok y z).parts hm λb t c=>?_⟩
  .rcases c with c|c
   .exact av.1 c
   .obtain ⟨c',g⟩:=h.tz u c;have:=h.box y z;rw[Bc,g]at this;injection this with this;injection this with _ this;exact absurd this ad9
  .rcases c with rfl|c
   .obtain ⟨c',g⟩:=h.tz z t;rw[ap]at g;injection g with g;injection g with _ g;exact absurd g ad9
   .exact av.2 b t c
 have aC:∀y,y∈(T.bz i j).js->y=j\/∃k,T.js[k]?=Z y/\k≠i:=λy q=>by
  obtain⟨k,d⟩:=Dn q;have f:(T.js.set i j)[k]?=Z y:=d;rw[Ds]at f;split at f
  .split at f
   .injection f with f;exact .inl f.symm
   .cases f
  .rename_i p;exact .inr ⟨k,f,λe=>p e.symm⟩
 refine⟨hm.aw h.head (n1 _ _ h.head (λc fr e=>by injection e with _ e;exact absurd e ad9) (λc fr e=>by injection e with _ e;exact absurd e ad9)),
  h.cls.mod hm (n1 _ _ an (λc fr e=>by cases e) (λc fr e=>by cases e)),Bb h.nodes hm (r h.nodes ad9 ad9),?_,Bb h.bh hm (r h.bh ad9 ad9),?_,?_,?_,?_,h.dn.mod am ?_,h.same⟩
 .have e:((T.bz i j).js.map λj=>Value.pointer (Z ⟨j.1,0,I⟩))=T.js.map λj=>Value.pointer (Z ⟨j.1,0,I⟩):=by
   show(T.js.set i j).map _=_;rw[Nh];apply Eg;intro k;rw[Ds];split
   .rename_i ac;subst ac;obtain⟨hl,af⟩:=Aq.1 hx;simp[hl,af,hb]
   .rfl
  have e2:(T.bz i j).js.length=T.js.length:=Do;rw[e,e2];exact Bb h.ab hm (r h.ab ad9 ad9)
 .intro y q;rcases aC y q with rfl|⟨k,d,p⟩
  .exact al
  .exact (s k y d p).1
 .intro y q;rcases aC y q with rfl|⟨k,d,p⟩
  .exact ⟨ha,aF,hg,aH,hp,hu,aJ⟩
  .exact (h.ok y (Ai d)).mod am ao (s k y d p).2
 .have e:(T.bz i j).js.map Prod.fst=T.js.map Prod.fst:=by
   show(T.js.set i j).map _=_;rw[Nh];apply Eg;intro k;rw[Ds];split
   .rename_i ac;subst ac;obtain⟨hl,af⟩:=Aq.1 hx;simp[hl,af,hb]
   .rfl
  rw[e];exact h.one
 .show (T.js.set i j).Pairwise _
  have aB:∀k y,T.js[k]?=Z y->k≠i->∀b,(y.2.pb=Z b->j.2.pb≠Z b):=λk y q d b aA aI=>by
   rcases ad b aI with c|c
   .exact (h.apart q hx d).2 b aA c
   .obtain ⟨c',g⟩:=h.tz (Ai q) aA;have:=Ab g;omega
  refine O7.2 λa b aE t aG=>?_;have m:=A4 aE;have l:=A4 t;generalize (T.js.set i j)[a]=ya at m ⊢;generalize (T.js.set i j)[b]=yb at l ⊢;rw[Ds]at m l;by_cases h1:i=a
  .subst h1;have h2:i≠b:=ao9;rw[Ac h2]at l;simp only[Kk]at m;split at m
   .injection m with m;subst m;exact λc h1 aD=>aB b yb l (λe=>h2 e.symm) c aD h1
   .cases m
  .rw [Ac h1]at m;by_cases h2:i=b
   .subst h2;simp only[Kk]at l;split at l
    .injection l with l;subst l;exact λc=>aB a ya m (λe=>h1 e.symm) c
    .cases l
   .rw [Ac h2]at l;exact F1 h.two m l aG
 .intro k c;rcases Sy hx hb c with c|c
  .exact .inl c
  .rcases ad k c with c|c
   .exact .inl (hJ k (.inr c))
   .exact .inr c
end
section
open Go.RowKit Go.Maps Go.Lib
def Ar4 {w:WD} {b:Nat} {x:ar} (g:Bc w b x):CS prog 180 #[Q (Z ⟨b,0,I⟩)] w λe w'=>e=K (D x.pl.waits)/\w'=w:=by
 have y:=Bk g 14 (G O x.pl.lf.st) rfl;obtain⟨s,f⟩:=Ex (x.pl.lf.st);have d:x.pl.waits=el s:=by rw[f];rfl
 rw[<-f]at y;replace⟨g,f,d⟩:=H3 g f d;by_cases a:s=1
 .have h:=Ma.2 a;have c:el s=true:=by unfold el;simp[a]
  replace⟨a,c⟩:=H2 a c;go_enter func180,ntmps180;go_wp2;go_ret;exact⟨by rw[d.out,c.out];rfl,rfl⟩
 .have h:=Bj.2 a;by_cases b:s=2
  .have i:=Ma.2 b;have c:el s=true:=(by unfold el;simp[b]);replace⟨a,b,c⟩:=H3 a b c;go_enter func180,ntmps180;go_wp2;go_ret;exact⟨by rw[d.out,c.out];rfl,rfl⟩
  .have i:=Bj.2 b;have c:el s=false:=(by unfold el;simp[a,b]);replace⟨a,b,c⟩:=H3 a b c;go_enter func180,ntmps180;go_wp2;go_ret;exact⟨by rw[d.out,c.out];rfl,rfl⟩
abbrev Kb (b:Nat) (w w':WD):Prop:=Mod (λk=>k=b) w w'
def Yn {w:WD} {b:Nat} {x:ar} (c:Bc w b x):CS prog 138 #[Q (Z ⟨b,0,I⟩)] w λe w'=>e=K (.tuple #[])/\Bc w' b x.bare/\Kb b w w':=by
 have g:∃v,w.cell? ⟨b,19,I⟩=Z v:=⟨_,Aa c 19⟩;have h:∃v,w.cell? ⟨b,20,I⟩=Z v:=⟨_,Aa c 20⟩;obtain⟨j,g⟩:=g;obtain⟨l,h⟩:=h;have i:=Af c;have a:=Am (Am c 19 (G O (-1))) 20 (J I 0 0);have d:Bc ((w.setCell ⟨b,19,I⟩ (G O (-1))).setCell ⟨b,20,I⟩ (J I 0 0)) b x.bare:=by unfold Bc;rw[a];simp[ar.bare,Jb.bare]
 have f:Kb b w ((w.setCell ⟨b,19,I⟩ (G O (-1))).setCell ⟨b,20,I⟩ (J I 0 0)):=((Mod.refl (λk=>k=b) w).set b 19 _ rfl).set b 20 _ rfl;replace⟨c,a,d,f⟩:=H4 c a d f;go_enter func138,ntmps138;go_wp2;go_end0;exact⟨rfl,d.out,f.out⟩
def Ta {w:WD} {b:Nat} {x:ar} (g:Bc w b x) (s:Int) (v:1<=s/\s<=8):CS prog 139 #[Q (Z ⟨b,0,I⟩),G O s] w λe w'=>e=K (.tuple #[])/\Bc w' b (x.bm (A3 x.pl.lf s).1)/\Kb b w w':=by
 obtain⟨l,t⟩:=Ex ((A3 x.pl.lf s).1);obtain⟨er,o⟩:=Ex ((A3 x.pl.lf s).2);have q:=Ahw x.pl.lf s w v;rw[<-t,<-o]at q;rw[<-t];clear t o;obtain⟨⟨id,sp,⟨st,u,left,m,j⟩,start,ak,parts⟩,so,sn,sc,go_,gn,gc,po,pn,pc⟩:=x;obtain⟨p,i,c,f,d⟩:=l;have y:=Bk g 14 (G O st) rfl;have z:=Bk g 15 (G O u) rfl;have ac:=Bk g 16 (G O left) rfl;have ad:=Bk g 17 (D m) rfl;have af:=Bk g 18 (D j) rfl;replace⟨q,g⟩:=H2 q g;go_enter func139,ntmps139;go_wp2_with fail;refine q.mono ?_;rintro e w1 ⟨rfl,h⟩;have a:=Ae h g.out (Ab g.out);have f1:=Af a;have al:=Bk a 14 (G O st) rfl;have am:=Bk a 15 (G O u) rfl;have an:=Bk a 16 (G O left) rfl;have ao:=Bk a 17 (D m) rfl;have ap:=Bk a 18 (D j) rfl;have n:=Am (Am (Am (Am (Am a 14 (G O p)) 15 (G O i)) 16 (G O c)) 17 (D f)) 18 (D d)
 have r:Kb b w (((((w1.setCell ⟨b,14,I⟩ (G O p)).setCell ⟨b,15,I⟩ (G O i)).setCell ⟨b,16,I⟩ (G O c)).setCell ⟨b,17,I⟩ (D f)).setCell ⟨b,18,I⟩ (D d)):=
  ((((((Mod.ag (S:=λk=>k=b) h).set b 14 _ rfl).set b 15 _ rfl).set b 16 _ rfl).set b 17 _ rfl).set b 18 _ rfl)
 replace⟨a,n,r,h⟩:=H4 a n r h;go_wp2;go_end0;refine⟨rfl,?_,r.out⟩;unfold Bc;rw[n.out];simp[ar.bm]
def Yo {a b:Bool} (h:a=b):Ending.returned (D a)=K (D b):=by rw[h]
def Ahx (b:Bool) (w:WD) (e:Ending) (w':WD):Prop:=∃r:Int,e=K (G O r)/\(0<=r↔b=true)/\BW w.heap.size w w'
def Ar5 (F:FuncId) (z:Array VL) (p:Int->Bool) (so:Option Addr) (n c:Nat) (xs:List Int) (w:WD) (h:Ap w so n xs)
  (hF:∀args w,(callFunc F args).run prog w=.ok (.enter F args) w)
  (H:∀x,x∈xs->∀w1,BW w.heap.size w w1->CS prog F (#[G O x]++z) w1 λe w2=>e=K (D (p x))/\BW w1.heap.size w1 w2) :
  CS prog 272 #[J so n c,.func (.func F) #[] z] w (Ahx (xs.any p) w):=by
 have g:=h.len;have ac:=h.max;replace⟨h,g,H⟩:=H3 h g H;go_enter func272,ntmps272;go_wp2;go_loopw [5,8] (λ_ i wr=>∃k:Nat,i=G O k/\k<=n/\Hid (∀j x,j<k->xs[j]?=Z x->p x=false)/\Hid (BW w.heap.size w wr)) (λ_ i _=>n-(intOf i).toNat)
 case atStart=>exact⟨0,rfl,As _,(λj x h=>by omega),Below.refl _ _⟩
 case round=>
  obtain⟨k,rfl,hk,l,d⟩:=hrel;by_cases hc:k<n
  .have u:(k:Int)<n:=ao9;have ad:(0:Int)<=(k:Int):=ao9;obtain⟨y,r⟩:=h.get hc;obtain⟨b,af,rfl,hb,a0⟩:=(h.low d.out).cell k y r;have f:=H y (Ai r) wr d.out;replace⟨f,r⟩:=H2 f r;obtain⟨q,t⟩:=Ex (p y);go_wp2_with fail;refine f.mono ?_;rintro e w2 ⟨rfl,m⟩;have a:=d.trans (m.mono d.size);rw[<-t];replace⟨a,m,t⟩:=H3 a m t
   cases q with
   | true=>
    have o:=K3.2 ⟨y,Ai r.out,t.symm⟩;replace o:=Hh o;go_wp2;go_ret;exact⟨k,rfl,⟨λ_=>o.out,λ_=>by omega⟩,a.out⟩
   | false=>
    have v:∀j x,j<k+1->xs[j]?=Z x->p x=false:=λj x hj e=>by
     by_cases c:j=k
     .subst c;have:=r.out;rw[e]at this;injection this with this;rw[this];exact t.symm
     .exact l.out j x ao9 e
    replace v:=Hh v;go_wp2;go_roundw
    case rel=>exact⟨k+1,by go_num,ao9,v.out,a.out⟩
    case measure=>simp[intOf];omega
  .have u:¬(k:Int)<n:=ao9;have o:xs.any p=false:=(by rw[Gl];intro c;obtain⟨x,hx,s⟩:=K3.1 c;obtain⟨j,hj,e⟩:=Pb.1 hx;have hl:=g.out;rw[l j x ao9 (by rw[A4 hj,e])]at s;cases s);replace o:=Hh o;go_wp2;go_ret;exact⟨-1,rfl,⟨λh=>by omega,λh=>by rw[o.out]at h;cases h⟩,d.out⟩
def Ahy (F:FuncId) (g:Array VL) (p:Int->Bool) (so:Option Addr) (n c:Nat) (xs:List Int) (w:WD) (h:Ap w so n xs)
  (hF:∀args w,(callFunc F args).run prog w=.ok (.enter F args) w)
  (H:∀x,x∈xs->∀w1,BW w.heap.size w w1->CS prog F (#[G O x]++g) w1 λe j=>e=K (D (p x))/\BW w1.heap.size w1 j) :
  CS prog 231 #[J so n c,.func (.func F) #[] g] w λe w'=>e=K (D (xs.any p))/\BW w.heap.size w w':=by
 have f:=Ar5 F g p so n c xs w h hF H;obtain⟨q,i⟩:=Ex (xs.any p);rw[<-i]at f;rw[<-i];clear i;replace⟨f,H,h⟩:=H3 f H h;go_enter func231,ntmps231;go_wp2_with fail;refine f.mono ?_;rintro e j ⟨r,rfl,b,a⟩
 cases q with
 | true=>
  have d:=b.2 rfl;replace⟨b,a⟩:=H2 b a;go_wp2;go_ret;exact⟨Yo as9,a.out⟩
 | false=>
  have d:¬(0:Int)<=r:=λh=>by cases b.1 h
  replace⟨b,a⟩:=H2 b a;go_wp2;go_ret;exact⟨Yo (by simpa using d),a.out⟩
structure Nu (w:WD) (so:Option Addr) (n:Nat) (xs:List (Int×Int)):Prop where
 len:xs.length=n
 max:n<=9223372036854775807
 cell:∀i x,xs[i]?=Z x->∃b,so=Z ⟨b,0,I⟩/\b<w.heap.size/\w.cell? ⟨b,i*2,I⟩=Z (G O x.1)/\w.cell? ⟨b,i*2+1,I⟩=Z (G O x.2)
def Nu.low {w w':WD} {so:Option Addr} {n:Nat} {xs:List (Int×Int)} (h:Nu w so n xs) (c:BW w.heap.size w w'):Nu w' so n xs:=
 ⟨h.len,h.max,λi x d=>by
  obtain⟨b,e,a,h0,h1⟩:=h.cell i x d
  exact⟨b,e,By a c.size,(Ag c a).trans h0,(Ag c a).trans h1⟩⟩
def Nu.get {w:WD} {so:Option Addr} {n:Nat} {xs:List (Int×Int)} (h:Nu w so n xs) {i:Nat} (a:i<n):=Ge xs i (by rw[h.len];exact a)
def Nu.xk {w:WD} {so:Option Addr} {n:Nat} {xs:List (Int×Int)} (h:Nu w so n xs) {i:Nat} {x:Int×Int} (a:xs[i]?=Z x):∃b,so=Z ⟨b,0,I⟩/\w.cell? ⟨b,i*2,I⟩=Z (G O x.1)/\w.cell? ⟨b,i*2+1,I⟩=Z (G O x.2):=by
 obtain⟨b,e,_,h0,h1⟩:=h.cell i x a;exact⟨b,e,h0,h1⟩
def Ar6 (F:FuncId) (z:Array VL) (p:Int×Int->Bool) (so:Option Addr) (n c:Nat) (xs:List (Int×Int)) (w:WD) (h:Nu w so n xs)
  (hF:∀args w,(callFunc F args).run prog w=.ok (.enter F args) w)
  (H:∀x,x∈xs->∀w1,BW w.heap.size w w1->CS prog F (#[.agg #[G O x.1,G O x.2]]++z) w1 λe w2=>e=K (D (p x))/\BW w1.heap.size w1 w2) :
  CS prog 233 #[J so n c,.func (.func F) #[] z] w (Ahx (xs.any p) w):=by
 have g:=h.len;have ac:=h.max;replace⟨h,g,H⟩:=H3 h g H;go_enter func233,ntmps233;go_wp2;go_loopw [5,8] (λ_ i wr=>∃k:Nat,i=G O k/\k<=n/\Hid (∀j x,j<k->xs[j]?=Z x->p x=false)/\Hid (BW w.heap.size w wr)) (λ_ i _=>n-(intOf i).toNat)
 case atStart=>exact⟨0,rfl,As _,(λj x h=>by omega),Below.refl _ _⟩
 case round=>
  obtain⟨k,rfl,hk,l,d⟩:=hrel;by_cases hc:k<n
  .have u:(k:Int)<n:=ao9;have ad:(0:Int)<=(k:Int):=ao9;obtain⟨y,r⟩:=h.get hc;obtain⟨b,rfl,a0,a1⟩:=(h.low d.out).xk r;have f:=H y (Ai r) wr d.out;replace⟨f,r⟩:=H2 f r;obtain⟨q,t⟩:=Ex (p y);go_wp2_with fail;refine f.mono ?_;rintro e w2 ⟨rfl,m⟩;have a:=d.trans (m.mono d.size);rw[<-t];replace⟨a,m,t⟩:=H3 a m t
   cases q with
   | true=>
    have o:=K3.2 ⟨y,Ai r.out,t.symm⟩;replace o:=Hh o;go_wp2;go_ret;exact⟨k,rfl,⟨λ_=>o.out,λ_=>by omega⟩,a.out⟩
   | false=>
    have v:∀j x,j<k+1->xs[j]?=Z x->p x=false:=λj x hj e=>by
     by_cases c:j=k
     .subst c;have:=r.out;rw[e]at this;injection this with this;rw[this];exact t.symm
     .exact l.out j x ao9 e
    replace v:=Hh v;go_wp2;go_roundw
    case rel=>exact⟨k+1,by go_num,ao9,v.out,a.out⟩
    case measure=>simp[intOf];omega
  .have u:¬(k:Int)<n:=ao9;have o:xs.any p=false:=(by rw[Gl];intro c;obtain⟨x,hx,s⟩:=K3.1 c;obtain⟨j,hj,e⟩:=Pb.1 hx;have hl:=g.out;rw[l j x ao9 (by rw[A4 hj,e])]at s;cases s);replace o:=Hh o;go_wp2;go_ret;exact⟨-1,rfl,⟨λh=>by omega,λh=>by rw[o.out]at h;cases h⟩,d.out⟩
def Ar7 (F:FuncId) (g:Array VL) (p:Int×Int->Bool) (so:Option Addr) (n c:Nat) (xs:List (Int×Int)) (w:WD) (h:Nu w so n xs)
  (hF:∀args w,(callFunc F args).run prog w=.ok (.enter F args) w)
  (H:∀x,x∈xs->∀w1,BW w.heap.size w w1->CS prog F (#[.agg #[G O x.1,G O x.2]]++g) w1 λe j=>e=K (D (p x))/\BW w1.heap.size w1 j) :
  CS prog 182 #[J so n c,.func (.func F) #[] g] w λe w'=>e=K (D (xs.any p))/\BW w.heap.size w w':=by
 have f:=Ar6 F g p so n c xs w h hF H;obtain⟨q,i⟩:=Ex (xs.any p);rw[<-i]at f;rw[<-i];clear i;replace⟨f,H,h⟩:=H3 f H h;go_enter func182,ntmps182;go_wp2_with fail;refine f.mono ?_;rintro e j ⟨r,rfl,b,a⟩
 cases q with
 | true=>
  have d:=b.2 rfl;replace⟨b,a⟩:=H2 b a;go_wp2;go_ret;exact⟨Yo as9,a.out⟩
 | false=>
  have d:¬(0:Int)<=r:=λh=>by cases b.1 h
  replace⟨b,a⟩:=H2 b a;go_wp2;go_ret;exact⟨Yo (by simpa using d),a.out⟩
def An.lh {w:WD} {T:Tv} (h:An w T) {k:Nat} {j:Nat×ar} (f:T.js[k]?=Z j):∃g cap,w.cell? ⟨T.tb,4,I⟩=Z (J (Z ⟨g,0,I⟩) T.js.length cap)/\w.cell? ⟨g,k,I⟩=Z (Q (Z ⟨j.1,0,I⟩))/\T.js.length<=cap/\T.jv=J (Z ⟨g,0,I⟩) T.js.length cap:=by
 have n:=(Aq.1 f).1;obtain⟨g,cap,e⟩:=Joins.ownsRow_form h.ab ao9;have c:=h.ab;rw[e]at c;have l:=Fo c k ao9;refine⟨g,cap,?_,?_,?_,e⟩
 .rw [Aa h.head 4,<-e];rfl
 .rw [l];simp[f]
 .rcases c.2 with⟨a,_⟩|⟨m,d,i,a,_,_,b,_⟩
  .simp at a
  .simp at a;rw[a.2];exact b
def Ar8:∀args w,(callFunc 232 args).run prog w=.ok (.enter 232 args) w:=I8 func232 ad9 (by simp[f232])
def Yp (s:Int):Bool:=ki s && decide (s≠5)
def Ahz {T:Tv} {k:Nat} {j:Nat×ar} (a:T.js[k]?=Z j):Me T.pl.ab ((k:Int)+1)=j.2.pl.lf.st:=by
 unfold Me Tv.pl;have e:((k:Int)+1-1).toNat=k:=ao9
 rw[e];simp[a]
def Ar9 {w:WD} {T:Tv} (h:An w T) (r:Nat) (l:w.cell? ⟨r,0,I⟩=Z (Q (Z ⟨T.tb,0,I⟩))) (k:Nat) (v:k<T.js.length) :
  CS prog 232 (#[G O ((k:Int)+1)]++#[Q (Z ⟨r,0,I⟩)]) w λe w'=>e=K (D (Yp (Me T.pl.ab ((k:Int)+1))))/\w'=w:=by
 obtain⟨j,i⟩:=Ge T.js k v;rw[Ahz i];obtain⟨g,cap,t,cj,al,_⟩:=h.lh i;obtain⟨tb,z⟩:=Ex (T.tb);obtain⟨jb,b⟩:=Ex (j.1);obtain⟨m,x⟩:=Ex (T.js.length);obtain⟨s,p⟩:=Ex (j.2.pl.lf.st);have cs:w.cell? ⟨j.1,14,I⟩=Z (G O j.2.pl.lf.st):=Aa (h.box j (Ai i)) 14
 have y:m<=9223372036854775807:=by
  rcases h.ab.2 with⟨_,e2⟩|⟨g',u,ac,e2,_,_,h1,h2,_⟩
  .omega
  .unfold maxLen at h2;omega
 rw[<-b,<-p]at cs;rw[<-z]at t l;rw[<-x]at t v;rw[<-b]at cj;rw[<-p];have af:(k:Int)<m:=ao9
 have ad:(0:Int)<=(k:Int):=ao9
 have f:=Ab8 s w;obtain⟨o,n⟩:=Ex (ki s);have c:Yp s=(o && decide (s≠5)):=by rw[n];rfl
 rw[<-n]at f;clear z b x p n h i;replace⟨f,c⟩:=H2 f c;go_enter func232,ntmps232;go_wp2_with fail;refine(f.out).mono ?_;rintro e w' ⟨rfl,rfl⟩
 cases o with
 | false=>
  go_wp2;go_ret;exact⟨by rw[c.out];rfl,rfl⟩
 | true=>
  by_cases q:s=5
  .have d:(s != (5:Int))=false:=(by rw[q];rfl);have a:decide (s≠5)=false:=(by simp[q]);rw[a]at c;replace⟨q,a⟩:=H2 q a;go_wp2;go_ret;exact⟨by rw[c.out];rfl,rfl⟩
  .have d:(s != (5:Int))=true:=(by rw[Fs];exact q);have a:decide (s≠5)=true:=(by simp[q]);rw[a]at c;replace⟨q,a⟩:=H2 q a;go_wp2;go_ret;exact⟨by rw[c.out];rfl,rfl⟩
def Asa {w:WD} {T:Tv} (h:An w T) {i:Nat} {j:Nat×ar} (hj:T.js[i]?=Z j) (hr:∀d,d∈j.2.pl.sp.after->1<=d/\d<=(T.js.length:Int)) :
  CS prog 181 #[Q (Z ⟨T.tb,0,I⟩),Q (Z ⟨j.1,0,I⟩)] w λe w'=>e=K (D (Sv T.pl.ab j.2.pl))/\BW w.heap.size w w':=by
 have f:=Ai hj;have cs:=Bk (h.box j f) 13 (J j.2.so j.2.sn j.2.sc) rfl;have aj:=(h.ok j f).after.row;obtain⟨v,b⟩:=Ex (w.alloc (V #[Q (Z ⟨T.tb,0,I⟩)] 27 (0,0)));have a:BW w.heap.size w v:=by rw[b];exact Bn
 have t:v.cell? ⟨w.heap.size,0,I⟩=Z (Q (Z ⟨T.tb,0,I⟩)):=by rw[b];exact Aa (Ah _ _) 0
 have o:w.heap.size<v.heap.size:=by rw[b];simp
 have g:=(Ag a (Ab (h.box j f))).trans cs
 have l:=Ahy 232 #[Q (Z ⟨w.heap.size,0,I⟩)] (λd=>Yp (Me T.pl.ab d)) j.2.so j.2.sn j.2.sc j.2.pl.sp.after v (aj.low a) Ar8 (λd y w1 n=>by
  obtain⟨h1,h2⟩:=hr d y;obtain⟨k,rfl⟩:∃k:Nat,d=(k:Int)+1:=⟨(d-1).toNat,ao9⟩
  exact(Ar9 ((h.low a).low n) w.heap.size ((Ag n o).trans t) k ao9).mono λe w' ⟨he,hw⟩=>⟨he,by rw[hw];exact Below.refl _ _⟩)
 have hz:Sv T.pl.ab j.2.pl=(j.2.pl.sp.after.any λd=>Yp (Me T.pl.ab d)):=rfl;rw[<-hz]at l;obtain⟨q,z⟩:=Ex (Sv T.pl.ab j.2.pl);rw[<-z]at l;rw[<-z];obtain⟨tb,u⟩:=Ex (T.tb);obtain⟨jb,m⟩:=Ex (j.1);obtain⟨so,s⟩:=Ex (j.2.so);obtain⟨sn,r⟩:=Ex (j.2.sn);obtain⟨sc,p⟩:=Ex (j.2.sc);rw[<-s,<-r,<-p]at l g;rw[<-m]at g;rw[b,<-u]at l;rw[b,<-u]at a g;rw[<-u,<-m];clear z hz aj cs t o b s r p m u h hj hr f;replace⟨l,a⟩:=H2 l a;go_enter func181,ntmps181;go_wp2_with fail;refine(l.out).mono ?_;rintro e w' ⟨rfl,x⟩;have c:=a.trans (x.mono a.size);replace⟨c,x⟩:=H2 c x;go_wp2;go_ret;exact⟨rfl,c.out⟩
structure Ic (x y:ar):Prop where
 so:y.so=x.so
 sn:y.sn=x.sn
 sc:y.sc=x.sc
 after:y.pl.sp.after=x.pl.sp.after
 user:y.pl.sp.user=x.pl.sp.user
 part:y.pl.sp.part=x.pl.sp.part
 ak:(y.go=x.go/\y.gn=x.gn/\y.gc=x.gc/\y.pl.ak=x.pl.ak)\/(y.go=I/\y.gn=0/\y.pl.ak=[])
 pb:∀b,y.pb=Z b->x.pb=Z b
def Ic.refl (x:ar):Ic x x:=⟨rfl,rfl,rfl,rfl,rfl,rfl,.inl ⟨rfl,rfl,rfl,rfl⟩,λ_ h=>h⟩
def Ic.trans {x y z:ar} (h:Ic x y) (k:Ic y z):Ic x z:=
 ⟨k.so.trans h.so,k.sn.trans h.sn,k.sc.trans h.sc,k.after.trans h.after,k.user.trans h.user,k.part.trans h.part,by
  rcases k.ak with⟨a,b,c,d⟩|c
  .rcases h.ak with⟨f,g,j,i⟩|⟨f,g,i⟩
   .exact .inl ⟨a.trans f,b.trans g,c.trans j,d.trans i⟩
   .exact .inr ⟨a.trans f,b.trans g,d.trans i⟩
  .exact .inr c,λb e=>h.pb b (k.pb b e)⟩
def Yq (x:ar) (l:Lf):Ic x (x.bm l):=⟨rfl,rfl,rfl,rfl,rfl,rfl,.inl ⟨rfl,rfl,rfl,rfl⟩,λ_ h=>h⟩
def Yr (x:ar):Ic x x.bare:=⟨rfl,rfl,rfl,rfl,rfl,rfl,.inr ⟨rfl,rfl,rfl⟩,λ_ h=>h⟩
variable {w w' wr:WD} {T:Tv}
def An.dq (h:An w T) {i b:Nat} {x y:ar} (n:T.js[i]?=Z (b,x)) (q:Mod (Gd (b,x)) w w') (l:Bc w' b y) (s:Bv w' y) (d:Ic x y):An w' (T.bz i (b,y)):=by
 have a:=h.ok _ (Ai n)
 have f:∀k,k<w.heap.size->(T.bz i (b,y)).az k->T.az k:=λk _ c=>by
  rcases Sy (j:=(b,y)) n rfl c with c|c
  .exact c
  .exact .inr (.inr (.inr (.inr ⟨_,Ai n,.inr (d.pb k c)⟩)))
 have m:Mod T.az w w':=q.mono λk _ c=>.inr (.inr (.inr (.inr ⟨_,Ai n,c.imp (λe=>e.symm) id⟩)));refine h.bz n rfl q l s (λk c=>.inl (d.pb k c)) ?_ ?_ ?_ ?_ ?_ ?_
 .have:=a.after.mod m f;show Ec w' _ y.so y.sn y.pl.sp.after;rw[d.so,d.sn,d.after];exact this
 .show y.sn<=y.sc;rw[d.sn,d.sc];exact a.pz
 .show Ec w' _ y.go y.gn y.pl.ak;rcases d.ak with⟨o,g,_,p⟩|⟨o,g,p⟩
  .rw [o,g,p];exact a.ak.mod m f
  .rw [o,g,p];exact Agy _ _
 .show y.gn<=y.gc;rcases d.ak with⟨_,g,r,_⟩|⟨_,g,_⟩
  .rw [g,r];exact a.oh
  .rw [g];exact As _
 .show y.pl.sp.user.size<=maxLen;rw[d.user];exact a.user
 .show y.pl.sp.part.size<=maxLen;rw[d.part];exact a.part
structure Bw (w:WD) (T:Tv) (js:List (Nat×ar)) (wr:WD):Prop where
 at_:An wr { T with js:=js }
 aw:js.map Prod.fst=T.js.map Prod.fst
 az:∀b,({ T with js:=js }:Tv).az b->T.az b\/w.heap.size<=b
 mod:Mod T.az w wr
 kp:∀(i:Nat) (x y:Nat×ar),T.js[i]?=Z x->js[i]?=Z y->Ic x.2 y.2
def Bw.refl (h:An w T):Bw w T T.js w:=⟨h,rfl,λ_ c=>.inl c,Mod.refl _ _,λi x y b a=>by rw[b]at a;injection a with a;rw[a];exact Ic.refl _⟩
def Bw.low {js:List (Nat×ar)} (h:Bw w T js wr) (a:BW wr.heap.size wr w'):Bw w T js w':=⟨h.at_.low a,h.aw,h.az,h.mod.low a,h.kp⟩
def Bw.len {js:List (Nat×ar)} (h:Bw w T js wr):js.length=T.js.length:=by
 have:=Cd List.length h.aw;simpa using this
def Bw.then {js d:List (Nat×ar)} (h:Bw w T js wr) (a:Bw wr { T with js:=js } d w'):Bw w T d w':=
 ⟨a.at_,a.aw.trans h.aw,λb c=>by
  rcases a.az b c with c|c
  .exact h.az b c
  .exact .inr (Ay h.mod.size c),h.mod.then a.mod λk l c=>by
  rcases h.az k c with c|c
  .exact c
  .omega,λi x z e j=>by
  have g:i<js.length:=by rw[h.len];exact(Aq.1 e).1
  have f:=A4 g
  exact(h.kp i x _ e f).trans (a.kp i _ z f j)⟩
def Asb {js:List (Nat×ar)} {i b:Nat} {x y:ar} (e:js[i]?=Z (b,x)):(js.set i (b,y)).map Prod.fst=js.map Prod.fst:=by
 rw[Nh];apply Eg;intro k;rw[Ds];split
 .rename_i a;subst a;obtain⟨d,c⟩:=Aq.1 e;simp[d,c]
 .rfl
def Bw.dq {js:List (Nat×ar)} (h:Bw w T js wr) {i b:Nat} {x y:ar} (f:js[i]?=Z (b,x)) (m:Mod (Gd (b,x)) wr w') (d:Bc w' b y) (p:Bv w' y) (g:Ic x y):Bw w T (js.set i (b,y)) w':=by
 have l:∀k,Gd (b,x) k->({ T with js:=js }:Tv).az k:=λk c=>.inr (.inr (.inr (.inr ⟨_,Ai f,c.imp (λe=>e.symm) id⟩)));refine⟨h.at_.dq (T:={ T with js:=js }) f m d p g,(Asb f).trans h.aw,λk c=>?_,h.mod.then m λk o c=>?_,λk z q n a=>?_⟩
 .rcases Sy (T:={ T with js:=js }) (j:=(b,y)) f rfl c with c|c
  .exact h.az k c
  .exact h.az k (l k (.inr (g.pb k c)))
 .rcases h.az k (l k c)with c|c
  .exact c
  .omega
 .rw [Ds]at a;split at a
  .rename_i e;subst e;split at a
   .injection a with a;subst a;exact(h.kp i z _ n f).trans g
   .cases a
  .exact h.kp k z q n a
def Vd {b:Nat} {x:ar} (d:Bc w b x) (a:Bv w x) (f:Mod (λk=>k=b) w w'):Bv w' x:=
 Bb a f λk e c=>by
  subst c;exact Bq a d ad9 e
def Pv {b:Nat} {x:ar} (h:Mod (λk=>k=b) w w'):Mod (Gd (b,x)) w w':=h.mono λ_ _ c=>.inl c
def Bw.get {js:List (Nat×ar)} (h:Bw w T js wr) {i:Nat} {j:Nat×ar} (a:js[i]?=Z j):Bc wr j.1 j.2/\Np wr ({ T with js:=js }:Tv).az j.2:=⟨h.at_.box j (Ai a),h.at_.ok j (Ai a)⟩
def Bw.vg {js:List (Nat×ar)} (h:Bw w T js wr) {i b:Nat} {x y:ar} (e:js[i]?=Z (b,x)) (d:Mod (λk=>k=b) wr w') (a:Bc w' b y) (n:Ic x y) (c:y.po=x.po/\y.pn=x.pn/\y.pc=x.pc/\y.pl.parts=x.pl.parts):Bw w T (js.set i (b,y)) w':=by
 obtain⟨h1,m⟩:=h.get e;refine h.dq e (Pv d) a ?_ n;have:=Vd h1 m.parts d;obtain⟨f,g,j,l⟩:=c;unfold Bv at *;rw[f,g,j,l];exact this
def An.off (h:An w T) {b:Nat} {c:Array VL} {a:TypeId} (d:w.heap[b]?=Z (V c a (0,0))) (h1:a≠115) (i:a≠119) (k:a≠125) (l:a≠46) (m:a≠65):¬T.az b:=λc=>by
 rcases c with e|e|e|e|⟨j,g,e|e⟩
 .have:=h.head;rw[<-e,d]at this;injection this with this;injection this with _ this;exact h1 this
 .obtain ⟨o,n,f⟩:=h.cls.aw;rw[<-e,d]at f;injection f with f;cases f
 .exact Bq h.nodes d i.symm e
 .exact Bq h.ab d k.symm e
 .have:=h.box j g;rw[Bc,e,d]at this;injection this with this;injection this with _ this;exact l this
 .exact Bq (h.ok j g).parts d m.symm e
def Ec.other {S:Nat->Prop} {so:Option Addr} {n b:Nat} {l:List Int} (h:Ec w S so n l) (d:Mod (λk=>k=b) w w') (j:0<n->∀k o,so=Z ⟨k,o,I⟩->k≠b):Ec w' S so n l:=
 ⟨⟨h.row.len,h.row.max,λi x f=>by
  obtain⟨k,c,e,a,g⟩:=h.row.cell i x f;have m:=(Aq.1 f).1;refine⟨k,c,e,By a d.size,?_⟩;rw[<-g]
  simp only[World.cell?,d.block k a (j (by have:=h.row.len;omega) k c e)]⟩,h.off⟩
def An.gg (h:An w T) {b:Nat} {c:Array VL} {d:TypeId} (p:w.heap[b]?=Z (V c d (0,0))) (a:Mod (λk=>k=b) w w') (y:T.tb<b) (h1:d≠115) (r:d≠119) (s:d≠125) (t:d≠46) (u:d≠65) (v:d≠30)
  (f:∀j,j∈T.js->(0<j.2.sn->∀k o,j.2.so=Z ⟨k,o,I⟩->k≠b)/\(0<j.2.gn->∀k o,j.2.go=Z ⟨k,o,I⟩->k≠b)):An w' T:=by
 have x:=h.off p h1 r s t u;have i:∀k,T.az k->k≠b:=λk c e=>x (e▸c)
 refine⟨a.aw h.head (i _ (.inl rfl)),h.cls.mod a (i _ (.inr (.inl rfl))),Bb h.nodes a (λk e=>i k (.inr (.inr (.inl e)))),Bb h.ab a (λk e=>i k (.inr (.inr (.inr (.inl e))))),
  Bb h.bh a (λk e c=>?_),λj l=>a.aw (h.box j l) (i _ (.inr (.inr (.inr (.inr ⟨j,l,.inl rfl⟩))))),λj l=>?_,h.one,h.two,?_,h.same⟩
 .subst c;exact Bq h.bh p v.symm e
 .have g:=h.ok j l;obtain⟨z,n2⟩:=f j l;exact⟨g.after.other a z,g.pz,g.ak.other a n2,g.oh,Bb g.parts a (λk e=>i k (.inr (.inr (.inr (.inr ⟨j,l,.inr e⟩))))),g.user,g.part⟩
 .obtain ⟨w0,q,m,n⟩:=h.dn.ex;have:=n _ (.inl rfl);exact⟨⟨w0,q,m.trans (a.below m.size λk e=>by omega),n⟩,h.dn.ok⟩
def Lo {so:Option Addr} {n k o:Nat} {l:List Int} (h:Ap w so n l) (h0:0<n) (e:so=Z ⟨k,o,I⟩):k<w.heap.size:=by
 obtain⟨x,d⟩:=h.get (i:=0) h0;obtain⟨f,c,b,a,_⟩:=h.cell 0 x d;rw[e]at b;cases b;exact a
def Bw.gg {js:List (Nat×ar)} (h:Bw w T js wr) (h0:An w T) {b:Nat} {c:Array VL} {a:TypeId} (y:wr.heap[b]?=Z (V c a (0,0))) (p:Mod (λk=>k=b) wr w') (g:w.heap.size<=b) (h1:a≠115) (s:a≠119) (t:a≠125) (u:a≠46) (v:a≠65) (x:a≠30):Bw w T js w':=by
 refine⟨h.at_.gg y p (By (Ab h0.head) g) h1 s t u v x λj z=>?_,h.aw,h.az,h.mod.then p (λk f e=>by omega),h.kp⟩;obtain⟨i,n⟩:=Dn z;have hl:i<T.js.length:=by rw[<-h.len];exact(Aq.1 n).1
 have r:=A4 hl;have f:=h.kp i _ j r n;have q:=h0.ok _ (Ai r);refine⟨λd k o e=>?_,λd k o e=>?_⟩
 .rw [f.sn]at d;rw[f.so]at e;have:=Lo q.after.row d e;omega
 .rcases f.ak with⟨l,m,_⟩|⟨l,m,_⟩
  .rw [m]at d;rw[l]at e;have:=Lo q.ak.row d e;omega
  .omega
def Nv (js:List (Nat×ar)) {i b:Nat} {x y:ar} (d:js[i]?=Z (b,x)) {f:Jb->Jb} (g:y.pl=f x.pl):(js.set i (b,y)).map (λj=>j.2.pl)=(js.map λj=>j.2.pl).modify i f:=by
 apply Eg;intro k;rw[Fp];by_cases e:i=k
 .subst e;obtain⟨c,a⟩:=Aq.1 d;simp[c,a,g]
 .simp [e]
end
section
open Go.RowKit Go.Maps Go.Lib
def An.ny {w:WD} {T:Tv} (h:An w T):∃so cap,T.jv=J so T.js.length cap/\T.js.length<=cap/\T.js.length<=9223372036854775807/\∀k j,T.js[k]?=Z j->∃g,so=Z ⟨g,0,I⟩/\w.cell? ⟨g,k,I⟩=Z (Q (Z ⟨j.1,0,I⟩)):=by
 rcases h.ab.2 with⟨e,h0⟩|⟨g,cap,f,e,_,_,h1,i,_⟩
 .refine ⟨I,0,by rw[e,h0],ao9,ao9,λk j b=>?_⟩;have:=(Aq.1 b).1;omega
 .refine ⟨Z ⟨g,0,I⟩,cap,e,h1,by unfold maxLen at i;omega,λk j b=>?_⟩;obtain⟨l,c,_,d,_,a⟩:=h.lh b;rw[e]at a;simp at a;exact⟨g,rfl,by rw[a.1];exact d⟩
def Acb (w:WD) (bs:List Nat):Nat:=bs.countP λb=>match w.cell? ⟨b,14,I⟩with
 | some (G _ s)=>el s
 | _=>false
def Ah4 {w:WD} {T:Tv} (h:An w T):Acb w (T.js.map Prod.fst)=Kp T.pl.ab:=by
 unfold Acb Kp Tv.pl;simp only;rw[List.countP_map,List.countP_map];apply List.countP_congr;intro j b;have a:=Bk (h.box j b) 14 (G O j.2.pl.lf.st) rfl;simp[a,Jb.waits]
def Ah5 (js:List Jb) (k:Nat):(Gs js k).map Jb.sp=js.map Jb.sp:=by
 unfold Gs;split
 .apply Eg;intro i;simp only[Bg,Fp]
  cases js[i]? with
  | none=>rfl
  | some j=>
   simp only[Kj]
   split<;>rfl
 .rfl
def Ed (js:List Jb):Prop:=∀j,j∈js->∀id,id∈j.sp.after->1<=id/\id<=(js.length:Int)
def Ra {js a:List Jb} (h:Ed js) (e:a.map Jb.sp=js.map Jb.sp):Ed a:=λj f i b=>by
 have g:a.length=js.length:=by have:=Cd List.length e;simpa using this
 have:j.sp∈js.map Jb.sp:=e▸Kg f;obtain⟨k,d,c⟩:=A8.1 this;rw[g];exact h k d i (by rw[c];exact b)
def Kq (w:WD) (T:Tv) (X:List Jb) (e:Ending) (w':WD):Prop:=e=K (.tuple #[])/\∃js,Bw w T js w'/\js.map (λj=>j.2.pl)=X
structure jz (w:WD) (T:Tv) (js:List (Nat×ar)) (X:List Jb) (wr:WD):Prop where
 tab:Bw w T js wr
 pl:js.map (λj=>j.2.pl)=X
 j5:Ed X
def jz.low {w:WD} {T:Tv} {js:List (Nat×ar)} {X:List Jb} {wr w':WD} (h:jz w T js X wr) (a:BW wr.heap.size wr w'):jz w T js X w':=⟨h.tab.low a,h.pl,h.j5⟩
def Acc (v:VL):Nat:=match v with
 | D true=>1
 | _=>0
def Yt {w:WD} {T:Tv} (h:An w T) (ha:Ed T.pl.ab):CS prog 130 #[Q (Z ⟨T.tb,0,I⟩)] w (Kq w T (Dp T.pl.ab)):=by
 obtain⟨so,cap,ad,aU,aO,_⟩:=h.ny;obtain⟨tb,ht⟩:=Ex (T.tb);obtain⟨m,hm⟩:=Ex (T.js.length);obtain⟨X0,x⟩:=Ex (T.pl.ab);have ao:jz w T T.js X0 w:=⟨Bw.refl h,x.symm,by rw[x];exact ha⟩
 have z:∀(js:List (Nat×ar)) (X:List Jb) (W:WD),jz w T js X W->W.cell? ⟨tb,4,I⟩=Z (J so m cap):=λjs X W hW=>by
  rw[ht,Aa hW.tab.at_.head 4,hm,<-ad];rfl
 have row:∀(js:List (Nat×ar)) (X:List Jb) (W:WD),jz w T js X W->∀k,k<m->∃g j,so=Z ⟨g,0,I⟩/\js[k]?=Z j/\W.cell? ⟨g,k,I⟩=Z (Q (Z ⟨j.1,0,I⟩)):=λjs X W hW k hk=>by
  have hl:js.length=m:=by rw[hm];exact hW.tab.len
  obtain⟨j,hj⟩:=Ge js k ao9;obtain⟨aS,aM,e1,_,_,hr⟩:=hW.tab.at_.ny;obtain⟨g,e2,hc⟩:=hr k j hj;have e3:T.jv=J aS js.length aM:=e1;rw[ad]at e3;injection e3 with e3 _ _;exact⟨g,j,e3.trans e2,hj,hc⟩
 rw[hm.symm]at aO;rw[<-ht,<-x];replace⟨h,ha,ad,x,ao,z,row,hm⟩:=H8 h ha ad x ao z row hm;replace ht:=Hh ht;go_enter func130,ntmps130;go_wp2;go_loopw [2,4,12] (λmv _ _ wr=>∃(mb:Bool) (js:List (Nat×ar)) (X:List Jb),mv=D mb/\Hid (jz w T js X wr)/\Hid (Dp X0=if mb=true then Dp X else X)) (λmv _ _ wr=>Acb wr (T.js.map Prod.fst)+Acc mv)
 case atStart=>exact⟨true,T.js,X0,rfl,ao.out,rfl⟩
 case round=>
  rename WD=>wo
  obtain⟨mb,js,X,rfl,u,hF⟩:=hrel
  cases mb with
  | false=>
   have am:Dp X0=X:=hF.out;replace am:=Hh am;go_wp2;go_end0;exact⟨rfl,js,u.tab,u.pl.trans am.symm⟩
  | true=>
   have c4:=z _ _ _ u.out;have ac:jz w T js (Co X 0).1 wo:=u.out;replace ac:=Hh ac;go_wp2;clear c4;go_loopw [2,4,12] (λmv _ i wr=>∃(k:Nat) (a:List (Nat×ar)),i=G O k/\k<=m/\mv=D (Co X k).2/\Hid (jz w T a (Co X k).1 wr)) (λ_ _ i _=>m-(intOf i).toNat)
   case atStart=>exact⟨0,js,rfl,As _,rfl,ac.out⟩
   case round=>
    obtain⟨k,a,rfl,hk,rfl,hE⟩:=hrel;by_cases hc:k<m
    .have aQ:(k:Int)<m:=ao9;have aT:(0:Int)<=(k:Int):=ao9;obtain⟨g,j,rfl,hj,cr⟩:=row _ _ _ hE.out k hc;obtain⟨jb,jx⟩:=j;obtain⟨Y9q,hY⟩:=Ex ((Co X k).1);obtain⟨q0,af⟩:=Ex ((Co X k).2);have c:=hE.out;rw[<-hY]at c;obtain⟨aE,aP⟩:=c.tab.get hj;have o:=Ar4 aE;have aA:Y9q[k]?=Z jx.pl:=by rw[<-c.pl];simp[hj]
     have s:=Asa (T:={ T with js:=a }) c.tab.at_ hj (λid aR=>by
      have:=c.j5 jx.pl (Ai aA) id aR;have e:Y9q.length=a.length:=(by rw[<-c.pl];simp);rw[e]at this
      exact this)
     have aN:({ T with js:=a }:Tv).pl.ab=Y9q:=c.pl;rw[aN]at s;have d:Gr Y9q k=(jx.pl.waits && Sv Y9q jx.pl):=by unfold Gr;rw[aA]
     have l:∀b,Gr Y9q k=b->(Co X (k+1))=(Gs Y9q k,q0 || b):=λb q=>by
      show(Gs (Co X k).1 k,(Co X k).2 || Gr (Co X k).1 k)=_;rw[<-hY,<-af,q]
     obtain⟨qw,aL⟩:=Ex (jx.pl.waits);obtain⟨ql,aK⟩:=Ex (Sv Y9q jx.pl);rw[<-aL]at o d;rw[<-aK]at s d;have mv:=λ(W:WD) (hW:Bc W jb jx)=>Ta hW 7 ao9;rw[show({ T with js:=a }:Tv).tb=tb from ht.symm]at s;rw[<-af];clear aA aN;replace⟨hE,c,hj,aE,aP,o,s,d⟩:=H8 hE c hj aE aP o s d;replace⟨l,aL,aK,mv,hY,af,hF,u⟩:=H8 l aL aK mv hY af hF u;replace ac:=Hh ac;go_wp2_with fail;refine o.mono ?_;rintro e w1 ⟨rfl,rfl⟩
     cases qw with
     | false=>
      have q:Gr Y9q k=false:=(by rw[d.out];rfl);have h1:=l false q;have v:jz w T a (Co X (k+1)).1 w1:=(by rw[h1,Ys q];exact c.out);have hq:(Co X (k+1)).2=q0:=(by rw[h1];simp);replace⟨q,h1,v,hq⟩:=H4 q h1 v hq;go_wp2;go_roundw
      case rel=>exact⟨k+1,a,by go_num,ao9,by rw[hq.out],v.out⟩
      case measure=>simp[intOf];omega
     | true=>
      go_wp2_with fail;refine s.mono ?_;rintro e w2 ⟨rfl,y⟩;have n:=c.low y;have p:=(n.tab.get hj.out).1
      cases ql with
      | false=>
       have q:Gr Y9q k=false:=(by rw[d.out];rfl);have h1:=l false q;have v:jz w T a (Co X (k+1)).1 w2:=(by rw[h1,Ys q];exact n);have hq:(Co X (k+1)).2=q0:=(by rw[h1];simp);replace⟨q,h1,v,hq,y,n,p⟩:=H7 q h1 v hq y n p;go_wp2;go_roundw
       case rel=>exact⟨k+1,a,by go_num,ao9,by rw[hq.out],v.out⟩
       case measure=>simp[intOf];omega
      | true=>
       have q:Gr Y9q k=true:=(by rw[d.out];rfl);have h1:=l true q;have aI:=mv _ p;replace⟨q,h1,y,n,p,aI⟩:=H6 q h1 y n p aI;go_wp2_with fail;refine aI.mono ?_;rintro e w3 ⟨rfl,aB,aF⟩;have aD:=Yn aB;replace⟨aB,aF,aD⟩:=H3 aB aF aD;go_wp2_with fail;refine aD.mono ?_;rintro e w4 ⟨rfl,aC,aG⟩
       have ap:=
        n.tab.vg hj.out (aF.trans aG) aC ((Yq _ _).trans (Yr _)) ⟨rfl,rfl,rfl,rfl⟩
       have aJ:(a.set k (jb,(jx.bm (A3 jx.pl.lf 7).1).bare)).map (λj=>j.2.pl)=Gs Y9q k:=(by rw[Nv a hj.out (f:=λj=>(j.move 7).bare) rfl,n.pl];unfold Gs;rw[Ad q.out]);have v:jz w T (a.set k (jb,(jx.bm (A3 jx.pl.lf 7).1).bare)) (Co X (k+1)).1 w4:=(by rw[h1.out];exact⟨ap,aJ,Ra n.j5 (Ah5 _ _)⟩);have hq:(Co X (k+1)).2=true:=(by rw[h1.out];simp);replace⟨aC,aG,ap,aJ,v,hq⟩:=H6 aC aG ap aJ v hq;go_wp2;go_roundw
       case rel=>exact⟨k+1,_,by go_num,ao9,by rw[hq.out],v.out⟩
       case measure=>simp[intOf];omega
    .have aQ:¬(k:Int)<m:=ao9;have aH:k=m:=ao9
     have av:X.length=m:=by
      have:=u.tab.len;have e:X.length=js.length:=(by rw[<-u.pl];simp);rw[e,this,hm.out]
     have e1:Co X k=Cf X:=(by unfold Cf;rw[av,aH]);rw[e1]at hE;rw[e1];have o:=Ah4 u.tab.at_;have al:=Ah4 hE.tab.at_;have b1:({ T with js:=js }:Tv).js.map Prod.fst=T.js.map Prod.fst:=u.tab.aw;have b2:({ T with js:=a }:Tv).js.map Prod.fst=T.js.map Prod.fst:=hE.tab.aw;rw[b1,show({ T with js:=js }:Tv).pl.ab=X from u.pl]at o;rw[b2,show({ T with js:=a }:Tv).pl.ab=(Cf X).1 from hE.pl]at al;have an:Dp X0=Dp X:=hF.out;have r:=Asi X;obtain⟨qp,t⟩:=Ex ((Cf X).2);rw[<-t]at r ⊢;replace⟨o,al,an,r,t,e1,aH,av⟩:=H8 o al an r t e1 aH av;replace⟨b1,b2⟩:=H2 b1 b2;go_wp2;go_roundw
     case rel=>
      refine⟨qp,a,(Cf X).1,rfl,hE.out,?_⟩;show Dp X0=_;rw[an.out,r.out]
      cases qp with
      | true=>rfl
      | false=>
       show X=(Cf X).1;exact(Aca t.symm).symm
     case measure=>
      rw[o.out,al.out]
      cases qp with
      | true=>
       have:=Ab9 t.symm;simp[Acc];omega
      | false=>
       rw[Aca t.symm];simp[Acc]
def Yu (a:List (Int×Int)) (k:Nat) (b:Int):(Av Fz a).set (k*2+1) (G O b)=Av Fz (a.modify k λp=>(p.1,b)):=by
 induction a generalizing k with
 | nil=>simp[Av]
 | cons p l ih=>
  cases k with
  | zero=>simp[Av]
  | succ k=>
   have e:(k+1)*2+1=(k*2+1)+1+1:=ao9;have:=ih k;rw[e,Wo];simp only[Av,Ql]at this ⊢;simp only[Pf,Ph,Wv];rw[this]
def Asl (a:List (Int×Int)):(Av Fz a).length=a.length*2:=by
 induction a with
 | nil=>rfl
 | cons p l ih=>simp[Av]at ih ⊢;omega
def Asm {w:WD} {a pc:Nat} {n:Nat} {d:List (Int×Int)} (h:w.ownsRow 0 65 2 (J (Z ⟨a,0,I⟩) n pc) n (Av Fz d)) (k:Nat) (b:Int) :
  (w.setCell ⟨a,k*2+1,I⟩ (G O b)).ownsRow 0 65 2 (J (Z ⟨a,0,I⟩) n pc) n (Av Fz (d.modify k λp=>(p.1,b))):=by
 refine⟨by rw[<-Yu,Do];exact h.1,?_⟩;rcases h.2 with⟨e,_⟩|⟨g,cap,c,e,l,m,h1,f,i,j⟩
 .simp at e
 .simp at e;obtain⟨rfl,rfl⟩:=e;refine .inr ⟨a,pc,c.setIfInBounds (k*2+1) (G O b),rfl,l,Am m _ _,h1,f,by simpa using i,?_⟩;rw[<-Yu,<-j];simp[List.take_set]
def ar.cu (x:ar) (p:Jb):ar:={ x with pl:=p }
def Pw {w:WD} {x:ar} (h:Bv w x) {k:Nat} (n:k<x.pn):∃c p,x.po=Z ⟨c,0,I⟩/\x.pl.parts[k]?=Z p/\w.cell? ⟨c,k*2,I⟩=Z (G O p.1)/\w.cell? ⟨c,k*2+1,I⟩=Z (G O p.2):=by
 have o:=Ji h;obtain⟨p,b⟩:=Ge x.pl.parts k ao9;rcases h.2 with⟨_,e⟩|⟨g,cap,l,e,_,_,_⟩
 .omega
 .simp at e;have a:=h;unfold Bv at a;rw[e.1,e.2]at a;have f:=Fo a (k*2) ao9;have i:=Fo a (k*2+1) ao9;have d:=Iw Agz x.pl.parts (j:=0) b ao9;have m:=Iw Agz x.pl.parts (j:=1) b ao9;rw[Iu]at d;exact⟨g,p,e.1,b,by rw[f,d];rfl,by rw[i,m];rfl⟩
def Yv {w:WD} {b:Nat} {x:ar} (hb:Bc w b x) (hp:Bv w x) (k:Nat) (hk:k<x.pn) (pb:Nat) (g:x.po=Z ⟨pb,0,I⟩) (d:Int) :
  CS prog 140 #[Q (Z ⟨b,0,I⟩),Q (Z ⟨pb,k*2,I⟩),G O d] w λe w'=>e=K (.tuple #[])/\Bc w' b (x.cu (Fw x.pl k d))/\Bv w' (x.cu (Fw x.pl k d))/\Mod (Gd (b,x)) w w':=by
 have f:x.pb=Z pb:=by unfold ar.pb;rw[g];rfl
 have u:pb≠b:=λe=>Bq hp hb ad9 (by rw[<-e];exact f);have hl:=Ji hp;obtain⟨af,p,e,ac,_,c1⟩:=Pw hp hk;rw[g]at e;injection e with e;injection e with e _ _;subst e;obtain⟨ad,n,_⟩:=C8 hp f;have f1:=Af n;have v:=hp;unfold Bv at v;rw[g]at v;have y:=Asm v k d;obtain⟨w1,r⟩:=Ex (w.setCell ⟨pb,k*2+1,I⟩ (G O d));have t:Mod (λk=>k=pb) w w1:=by rw[r];exact Mod.setCell _ _ _ _ rfl
 have j:Bc w1 b x:=t.aw hb (λe=>u e.symm);rw[<-r]at y;have o:Mod (Gd (b,x)) w w1:=t.mono λi _ e=>.inr (by rw[e];exact f)
 have h:∀(l:Lf) (W:WD),Bc W b (x.bm l)->Mod (λk=>k=b) w1 W->l=Q4 d x.pl.lf->Bc W b (x.cu (Fw x.pl k d))/\Bv W (x.cu (Fw x.pl k d))/\Mod (Gd (b,x)) w W:=λl W hW hm hl=>by
  subst hl;refine⟨hW,?_,o.trans (Pv hm)⟩
  have:=Bb y hm λi hi c=>by
   simp[Value.ownBlock]at hi;exact u (hi.trans c)
  unfold Bv;show W.ownsRow 0 65 2 (J x.po x.pn x.pc) x.pn _;rw[g];exact this
 have k4:=Ta j 4 ao9;have k5:=Ta j 5 ao9;rw[r]at k4 k5
 have hs:Q4 d x.pl.lf=if d=2 then(A3 x.pl.lf 4).1 else if d=3 then(A3 x.pl.lf 5).1 else x.pl.lf:=rfl
 have m:=j;have s:=Hh r;clear r n v ac;replace⟨hb,hp,g,f,u,hl,y,t⟩:=H8 hb hp g f u hl y t;replace⟨j,o,h,k4,k5,hs,m⟩:=H7 j o h k4 k5 hs m;by_cases q:d=2
 .have d1:(d == (2:Int))=true:=by rw[q];rfl
  have a:Q4 d x.pl.lf=(A3 x.pl.lf 4).1:=by rw[hs.out,Ad q]
  replace⟨q,a⟩:=H2 q a;go_enter func140,ntmps140;go_wp2_with fail;refine k4.mono ?_;rw[<-s.out];rintro e w2 ⟨rfl,h1,h2⟩;replace⟨h1,h2⟩:=H2 h1 h2;go_wp2;go_end0;exact⟨rfl,h _ _ h1.out h2.out a.symm⟩
 .have d1:=Bj.2 q;by_cases z:d=3
  .have d2:(d == (3:Int))=true:=(by rw[z];rfl);have a:Q4 d x.pl.lf=(A3 x.pl.lf 5).1:=(by rw[hs.out,Ac q,Ad z]);replace⟨q,z,a⟩:=H3 q z a;go_enter func140,ntmps140;go_wp2_with fail;refine k5.mono ?_;rw[<-s.out];rintro e w2 ⟨rfl,h1,h2⟩;replace⟨h1,h2⟩:=H2 h1 h2;go_wp2;go_end0;exact⟨rfl,h _ _ h1.out h2.out a.symm⟩
  .have d2:=Bj.2 z;have a:Q4 d x.pl.lf=x.pl.lf:=(by rw[hs.out,Ac q,Ac z]);replace⟨q,z,a⟩:=H3 q z a;go_enter func140,ntmps140;go_wp2;go_end0;rw[<-s.out];exact⟨rfl,h _ _ m.out (Mod.refl _ _) a.symm⟩
structure xh (w:WD) (b:Nat) (x:ar) (p:Jb) (wr:WD):Prop where
 box:Bc wr b (x.cu p)
 parts:Bv wr (x.cu p)
 mod:Mod (Gd (b,x)) w wr
def Ah6 {w:WD} {b:Nat} {x:ar} (hb:Bc w b x) (hp:Bv w x) (a:Int) :
  CS prog 133 #[Q (Z ⟨b,0,I⟩),G O a] w λe w'=>e=K (.tuple #[])/\xh w b x (Fx x.pl a) w':=by
 have hl:=Ji hp;have h0:xh w b x (Jh x.pl a 0) w:=⟨hb,hp,Mod.refl _ _⟩;have y:=Bk hb 21 (J x.po x.pn x.pc) rfl;obtain⟨po,l⟩:=Ex (x.po);obtain⟨pn,g⟩:=Ex (x.pn);obtain⟨pc,s⟩:=Ex (x.pc)
 have an:pn<=9223372036854775807:=by
  rw[g];rcases hp.2 with⟨_,e2⟩|⟨g',am,ao,e2,_,_,h1,h2,_⟩
  .omega
  .unfold maxLen at h2;omega
 rw[<-l,<-g,<-s]at y;have hJ:Fx x.pl a=Jh x.pl a pn:=by unfold Fx;rw[hl,g]
 rw[hJ];replace⟨hb,hp,hl,h0,l,g,s,hJ⟩:=H8 hb hp hl h0 l g s hJ;go_enter func133,ntmps133;go_wp2;clear y;go_loopw [4,5,11] (λ_ _ i wr=>∃k:Nat,i=G O k/\k<=pn/\Hid (xh w b x (Jh x.pl a k) wr)) (λ_ _ i _=>pn-(intOf i).toNat)
 case atStart=>exact⟨0,rfl,As _,h0.out⟩
 case round=>
  obtain⟨k,rfl,hk,hG⟩:=hrel;by_cases hc:k<pn
  .have al:(k:Int)<pn:=ao9;have ap:(0:Int)<=(k:Int):=ao9;obtain⟨j,hj⟩:=Ex (Jh x.pl a k);obtain⟨X,n⟩:=Ex (x.cu j);have d:=hG.out;rw[<-hj]at d;have r:Bv wr X:=(by rw[n];exact d.parts);have o:Bc wr b X:=(by rw[n];exact d.box);have ac:k<X.pn:=(by rw[n];show k<x.pn;rw[<-g.out];exact hc);obtain⟨pb,p,e,ad,c0,c1⟩:=Pw r ac;have e2:po=Z ⟨pb,0,I⟩:=(by rw[l.out,<-e,n];rfl);have y:wr.cell? ⟨b,21,I⟩=Z (J (Z ⟨pb,0,I⟩) pn pc):=(by rw[Aa o 21,n];show Z (Value.slice x.po x.pn x.pc)=_;rw[<-l.out,<-g.out,<-s.out,e2]);have h:=Yv o r k ac pb e 3;obtain⟨t,u⟩:=p
   have f:Jh x.pl a (k+1)=if u=0/\(a<0\/t=a)then Fw j k 3 else j:=by
    show Pr (Jh x.pl a k) k a=_;rw[<-hj];have af:j.parts[k]?=Z (t,u):=(by rw[<-ad,n];rfl);unfold Pr;rw[af]
   have hw:∀W:WD,Bc W b (X.cu (Fw X.pl k 3))/\Bv W (X.cu (Fw X.pl k 3))/\Mod (Gd (b,X)) wr W->u=0/\(a<0\/t=a)->xh w b x (Jh x.pl a (k+1)) W:=λW ⟨h1,h2,h3⟩ hq=>by
    rw[f,Ad hq];rw[n]at h1 h2 h3;exact⟨h1,h2,d.mod.trans h3⟩
   have hn:¬(u=0/\(a<0\/t=a))->xh w b x (Jh x.pl a (k+1)) wr:=λhq=>by
    rw[f,Ac hq];exact d
   clear ad;replace⟨d,r,o,h,f,hw,hn,e⟩:=H8 d r o h f hw hn e;replace⟨e2,n,hj,hG⟩:=H4 e2 n hj hG;by_cases q:u=0
   .have d1:(u == (0:Int))=true:=(by rw[q];rfl);by_cases q2:a<0
    .have m:u=0/\(a<0\/t=a):=⟨q,.inl q2⟩;replace⟨q,m⟩:=H2 q m;go_wp2_with fail;refine h.mono ?_;rintro e w2 ⟨rfl,hh⟩;have c:=hw _ hh m.out;clear hh;replace c:=Hh c;go_wp2;go_roundw
     case rel=>exact⟨k+1,by go_num,ao9,c.out⟩
     case measure=>simp[intOf];omega
    .by_cases v:t=a
     .have m:u=0/\(a<0\/t=a):=⟨q,.inr v⟩;have d3:(t == a)=true:=(by rw[v];simp);replace⟨q,m,v⟩:=H3 q m v;go_wp2_with fail;refine h.mono ?_;rintro e w2 ⟨rfl,hh⟩;have c:=hw _ hh m.out;clear hh;replace c:=Hh c;go_wp2;go_roundw
      case rel=>exact⟨k+1,by go_num,ao9,c.out⟩
      case measure=>simp[intOf];omega
     .have d3:=Bj.2 v;have c:=hn.out λm=>m.2.elim q2 v;replace⟨q,v,c⟩:=H3 q v c;go_wp2;go_roundw
      case rel=>exact⟨k+1,by go_num,ao9,c.out⟩
      case measure=>simp[intOf];omega
   .have d1:=Bj.2 q;have c:=hn.out λm=>q m.1;replace⟨q,c⟩:=H2 q c;go_wp2;go_roundw
    case rel=>exact⟨k+1,by go_num,ao9,c.out⟩
    case measure=>simp[intOf];omega
  .have al:¬(k:Int)<pn:=ao9;have z:k=pn:=ao9;have d:=hG.out;rw[z]at d;replace⟨d,z⟩:=H2 d z;go_wp2;go_end0;exact⟨rfl,d.out⟩
def Asn:∀args w,(callFunc 183 args).run prog w=.ok (.enter 183 args) w:=I8 func183 ad9 (by simp[f183])
def Ah7 {w:WD} {x:ar} (h:Bv w x):Nu w x.po x.pn x.pl.parts:=by
 have o:=Ji h;refine⟨o,?_,λi p c=>?_⟩
 .rcases h.2 with⟨_,e⟩|⟨g,cap,b,e,_,_,h1,l,_⟩
  .omega
  .unfold maxLen at l;omega
 .have q:=(Aq.1 c).1;obtain⟨d,r,e,a,f,j⟩:=Pw h (k:=i) ao9;rw[c]at a;injection a with a;subst a;have m:x.pb=Z d:=by unfold ar.pb;rw[e];rfl
  obtain⟨b,n,_⟩:=C8 h m;exact⟨d,e,Ab n,f,j⟩
def Bv.low {w w':WD} {x:ar} (h:Bv w x) (a:BW w.heap.size w w'):Bv w' x:=Bb (S:=λ_=>False) h (Mod.ag a) λ_ _ c=>c
def Aso (x:Int×Int) (w:WD):CS prog 183 (#[.agg #[G O x.1,G O x.2]]++#[]) w λe w'=>e=K (D (decide (x.2=0)))/\BW w.heap.size w w':=by
 have a:Hid (BW w.heap.size w (w.alloc (V #[G O x.1,G O x.2] 65 (0,0)))):=Hh Bn;by_cases q:x.2=0
 .have d:(x.2 == (0:Int))=true:=by rw[q];rfl
  have b:=At q;rw[b];replace⟨q,b⟩:=H2 q b;go_enter func183,ntmps183;go_wp2;go_ret;exact⟨rfl,a.out⟩
 .have d:=Bj.2 q;have b:=Au q;rw[b];replace⟨q,b⟩:=H2 q b;go_enter func183,ntmps183;go_wp2;go_ret;exact⟨rfl,a.out⟩
def Asp {w:WD} {x:ar} (h:Bv w x):CS prog 182 #[J x.po x.pn x.pc,.func (.func 183) #[] #[]] w λe w'=>e=K (D x.pl.open_)/\BW w.heap.size w w':=
 Ar7 183 #[] (λp=>decide (p.2=0)) x.po x.pn x.pc x.pl.parts w (Ah7 h) Asn λp _ w1 _=>Aso p w1
def Ee (f:Jb->Jb) (X:List Jb):Nat->List Jb
 | 0=>X
 | n+1=>(Ee f X n).modify n f
def Acd (f:Jb->Jb) (X:List Jb) (n i:Nat):(Ee f X n)[i]?=if i<n then(X[i]?).map f else X[i]?:=by
 induction n with
 | zero=>simp[Ee]
 | succ n ih=>
  show((Ee f X n).modify n f)[i]?=_;rw[Fp,ih];by_cases h:n=i
  .subst h;simp
  .by_cases b:i<n
   .have a:i<n+1:=ao9;simp[h,b,a]
   .have a:¬i<n+1:=ao9;simp[h,b,a]
def Tc (f:Jb->Jb) (X:List Jb):Ee f X X.length=X.map f:=by
 apply Eg;intro i;rw[Acd,Bg];split
 .rfl
 .have:X[i]?=I:=Pa ao9;rw[this];rfl
def Yw (f:Jb->Jb) (a:∀j,(f j).sp=j.sp) (X:List Jb) (n:Nat):(Ee f X n).map Jb.sp=X.map Jb.sp:=by
 apply Eg;intro i;rw[Bg,Bg,Acd];split
 .rw [Option.map_map];congr 1
  funext j
  exact a j
 .rfl
def Ah8 (j:Jb):(Eb j).sp=j.sp:=by
 unfold Eb;split
 .rfl
 .split<;>rfl
def ar.gi (x:ar):ar:={ x with pl:={ x.pl with parts:=[] },po:=I,pn:=0,pc:=0 }
def Ah9 (x:ar):Ic x x.gi:=⟨rfl,rfl,rfl,rfl,rfl,rfl,.inl ⟨rfl,rfl,rfl,rfl⟩,λb h=>by cases h⟩
def Aia (w:WD) (x:ar):Bv w x.gi:=Nb _ _ _ _
def Asq {x:ar} {w:WD} (h:Bv w x):(x.pn:Int)=0↔x.pl.parts=[]:=by
 have:=Ji h;rw[<-Gb];omega
def Kq.then {w w1:WD} {T:Tv} {js:List (Nat×ar)} {X:List Jb} {e:Ending} {w':WD} (h:Bw w T js w1) (b:Kq w1 { T with js:=js } X e w'):Kq w T X e w':=by
 obtain⟨h1,a,c,d⟩:=b;exact⟨h1,a,h.then c,d⟩
def Ace {w:WD} {T:Tv} (h:An w T) (ha:Ed T.pl.ab):CS prog 134 #[Q (Z ⟨T.tb,0,I⟩)] w (Kq w T (Ia T.pl.ab)):=by
 obtain⟨so,cap,aJ,a4,aV,_⟩:=h.ny;obtain⟨tb,ht⟩:=Ex (T.tb);obtain⟨m,hm⟩:=Ex (T.js.length);obtain⟨x,al⟩:=Ex (T.pl.ab);have aH:jz w T T.js (Ee Eb x 0) w:=⟨Bw.refl h,al.symm,by show Ed x;rw[al];exact ha⟩;have aN:x.length=m:=by rw[al,hm];simp[Tv.pl]
 have aE:∀(js:List (Nat×ar)) (X:List Jb) (W:WD),jz w T js X W->W.cell? ⟨tb,4,I⟩=Z (J so m cap):=λjs X W hW=>by
  rw[ht,Aa hW.tab.at_.head 4,hm,<-aJ];rfl
 have row:∀(js:List (Nat×ar)) (X:List Jb) (W:WD),jz w T js X W->∀k,k<m->∃g j,so=Z ⟨g,0,I⟩/\js[k]?=Z j/\W.cell? ⟨g,k,I⟩=Z (Q (Z ⟨j.1,0,I⟩)):=λjs X W hW k hk=>by
  have hl:js.length=m:=by rw[hm];exact hW.tab.len
  obtain⟨j,hj⟩:=Ge js k ao9;obtain⟨a0,aU,e1,_,_,hr⟩:=hW.tab.at_.ny;obtain⟨g,e2,hc⟩:=hr k j hj;have e3:T.jv=J a0 js.length aU:=e1;rw[aJ]at e3;injection e3 with e3 _ _;exact⟨g,j,e3.trans e2,hj,hc⟩
 have c4:=aE _ _ _ aH;rw[hm.symm]at aV;rw[<-ht,<-al];replace⟨h,ha,aJ,al,aH,aE,row,hm⟩:=H8 h ha aJ al aH aE row hm;replace⟨ht,aN⟩:=H2 ht aN;go_enter func134,ntmps134;go_wp2;clear c4;go_loopw [3,10] (λ_ i wr=>∃(k:Nat) (js:List (Nat×ar)),i=G O k/\k<=m/\Hid (jz w T js (Ee Eb x k) wr)) (λ_ i _=>m-(intOf i).toNat)
 case atStart=>exact⟨0,T.js,rfl,As _,aH.out⟩
 case round=>
  obtain⟨k,js,rfl,hk,hE⟩:=hrel;by_cases hc:k<m
  .have aX:(k:Int)<m:=ao9;have a3:(0:Int)<=(k:Int):=ao9;obtain⟨g,j,rfl,hj,cr⟩:=row _ _ _ hE.out k hc;obtain⟨jb,b⟩:=j;obtain⟨Y9q,hY⟩:=Ex (Ee Eb x k);have a:=hE.out;rw[<-hY]at a;obtain⟨aD,am⟩:=a.tab.get hj;have ap:Y9q[k]?=Z b.pl:=(by rw[<-a.pl];simp[hj]);have n:Ee Eb x (k+1)=Y9q.modify k Eb:=(by rw[hY];rfl);have p:Ed (Ee Eb x (k+1)):=Ra a.j5 (by rw[Yw _ Ah8,hY,Yw _ Ah8]);have r:=Asq am.parts;have a1:=Bk aD 21 (J b.po b.pn b.pc) rfl;obtain⟨pn,u⟩:=Ex (b.pn);obtain⟨po,ao⟩:=Ex (b.po);obtain⟨pc,an⟩:=Ex (b.pc);rw[<-u,<-ao,<-an]at a1;have z:=Asp am.parts;rw[<-u,<-ao,<-an]at z;have aF:=λ(W:WD) (hW:Bc W jb b)=>Ta hW 8 ao9
   have s:∀y,b.pl.parts=[]\/b.pl.open_=true->y=Ee Eb x (k+1)->y=Y9q:=λy hy e=>by
    rw[e,n];have e1:Eb b.pl=b.pl:=Ad hy;apply Eg;intro i;rw[Fp];by_cases h:k=i
    .subst h;simp[ap,e1]
    .simp [h]
   by_cases q0:pn=0
   .have d1:((pn:Int) == 0)=true:=(by rw[q0];rfl);have d:jz w T js (Ee Eb x (k+1)) wr:=(by rw[s _ (.inl (r.1 (by rw[<-u,q0];rfl))) rfl];exact a);replace⟨q0,hE,a,hj,aD,am,hY,ap⟩:=H8 q0 hE a hj aD am hY ap;replace⟨n,p,r,u,ao,an,z,aF⟩:=H8 n p r u ao an z aF;replace⟨s,d⟩:=H2 s d;go_wp2;go_roundw
    case rel=>exact⟨k+1,js,by go_num,ao9,d.out⟩
    case measure=>simp[intOf];omega
   .have d1:((pn:Int) == 0)=false:=(by rw[Bj];omega);obtain⟨q,hq⟩:=Ex (b.pl.open_);rw[<-hq]at z;replace⟨q0,hE,a,hj,aD,am,hY,ap⟩:=H8 q0 hE a hj aD am hY ap;replace⟨n,p,r,u,ao,an,z,aF⟩:=H8 n p r u ao an z aF;replace⟨s,hq⟩:=H2 s hq;go_wp2_with fail;refine z.mono ?_;rintro e w1 ⟨rfl,aA⟩;have o:=a.low aA;have t:=(o.tab.get hj.out).1
    cases q with
    | true=>
     have d:jz w T js (Ee Eb x (k+1)) w1:=(by rw[s _ (.inr hq.symm) rfl];exact o);replace⟨aA,o,t,d⟩:=H4 aA o t d;go_wp2;go_roundw
     case rel=>exact⟨k+1,js,by go_num,ao9,d.out⟩
     case measure=>simp[intOf];omega
    | false=>
     have ad:=aF _ t;obtain⟨l,hl⟩:=Ex ((A3 b.pl.lf 8).1);rw[<-hl]at ad
     have aL:Eb b.pl=if l.st=1 then⟨b.pl.id,b.pl.sp,l,-1,[],[]⟩else⟨b.pl.id,b.pl.sp,l,b.pl.start,b.pl.ak,[]⟩:=by
      have aY:¬(b.pl.parts=[]\/b.pl.open_=true):=λc=>by
       rcases c with c|c
       .exact q0.out (by have:=r.2 c;rw[u.out];omega)
       .rw [<-hq.out]at c;cases c
      rw[hl];exact Ac aY
     replace⟨aA,o,t,ad,hl,aL⟩:=H6 aA o t ad hl aL;go_wp2_with fail;refine ad.mono ?_;rintro e w2 ⟨rfl,aB,aR⟩;obtain⟨w3,aG⟩:=Ex (w2.setCell ⟨jb,21,I⟩ (J I 0 0));have aC:Bc w3 jb (b.bm l).gi:=(by unfold Bc;rw[aG,Am aB];simp[ar.gi]);have aK:Kb jb w1 w3:=(by rw[aG];exact aR.trans (Mod.setCell _ _ _ _ rfl));have aW:∃v,w2.cell? ⟨jb,21,I⟩=Z v:=⟨_,Aa aB 21⟩;obtain⟨a5,aW⟩:=aW;have fz:=Af aB;have a2:=Bk aC 14 (G O l.st) rfl;have aI:=Yn aC;rw[aG]at a2 aI;have aM:=Hh aG;clear aG;replace⟨aB,aR,aC,aK,aI⟩:=H5 aB aR aC aK aI;by_cases q1:l.st=1
     .have d3:=Ma.2 q1;have ac:Eb b.pl=⟨b.pl.id,b.pl.sp,l,-1,[],[]⟩:=(by rw[aL.out,Ad q1]);replace⟨q1,ac⟩:=H2 q1 ac;go_wp2_with fail;refine aI.mono ?_;rw[<-aM.out];rintro e w4 ⟨rfl,aO,aS⟩
      have af:=
       o.tab.dq hj.out (Pv (aK.trans aS)) aO (Aia _ (b.bm l).bare) (((Yq _ _).trans (Ah9 _)).trans (Yr _))
      have d:jz w T (js.set k (jb,(b.bm l).gi.bare)) (Ee Eb x (k+1)) w4:=(by refine⟨af,?_,p.out⟩;rw[Nv js hj.out (f:=Eb) (by rw[ac.out];rfl),o.pl,n.out]);replace⟨aO,aS,af,d⟩:=H4 aO aS af d;go_wp2;go_roundw
      case rel=>exact⟨k+1,_,by go_num,ao9,d.out⟩
      case measure=>simp[intOf];omega
     .have d3:=Bj.2 q1;have ac:Eb b.pl=⟨b.pl.id,b.pl.sp,l,b.pl.start,b.pl.ak,[]⟩:=by rw[aL.out,Ac q1]
      have af:=
       o.tab.dq hj.out (Pv aK.out) aC.out (Aia _ (b.bm l)) ((Yq _ _).trans (Ah9 _))
      have d:jz w T (js.set k (jb,(b.bm l).gi)) (Ee Eb x (k+1)) w3:=(by refine⟨af,?_,p.out⟩;rw[Nv js hj.out (f:=Eb) (by rw[ac];rfl),o.pl,n.out]);rw[aM.out]at d;clear af;replace⟨q1,ac,d⟩:=H3 q1 ac d;go_wp2;go_roundw
      case rel=>exact⟨k+1,_,by go_num,ao9,d.out⟩
      case measure=>simp[intOf];omega
  .have aX:¬(k:Int)<m:=ao9;have aT:k=m:=ao9;have a:=hE.out;have av:Ee Eb x k=x.map Eb:=(by rw[aT,<-aN.out];exact Tc _ _);rw[av]at a
   have aP:CS prog 130 #[Q (Z ⟨tb,0,I⟩)] wr (Kq wr { T with js:=js } (Dp (x.map Eb))):=by
    have:=Yt (T:={ T with js:=js }) a.tab.at_ (by
     show Ed (js.map λj=>j.2.pl)
     rw[a.pl];exact a.j5)
    rw[show({ T with js:=js }:Tv).pl.ab=x.map Eb from a.pl]at this;rw[ht.out];exact this
   replace⟨aP,a,av,aT,hE⟩:=H5 aP a av aT hE;go_wp2_with fail;refine aP.mono ?_;rintro e w2 hp
   have aZ:=Kq.then a.tab hp
   obtain⟨rfl,aQ⟩:=aZ;replace aQ:=Hh aQ;clear hp;go_wp2;go_end0;exact⟨rfl,aQ.out⟩
def Gh (kind:Int):Int:=if kind=3 then 6 else if kind=4 then 1 else 2
def Aib (k:Int) (w:WD):CS prog 101 #[G O k] w λe w'=>e=K (G O (Gh k))/\w'=w:=by
 by_cases q:k=3
 .have d:(k == (3:Int))=true:=by rw[q];rfl
  have a:Gh k=6:=Ad q;rw[a];replace⟨q,a⟩:=H2 q a;go_enter func101,ntmps101;go_wp2;go_ret;exact⟨rfl,rfl⟩
 .have d:=Bj.2 q;by_cases b:k=4
  .have c:(k == (4:Int))=true:=(by rw[b];rfl);have a:Gh k=1:=(by unfold Gh;rw[Ac q,Ad b]);rw[a];replace⟨q,a,b⟩:=H3 q a b;go_enter func101,ntmps101;go_wp2;go_ret;exact⟨rfl,rfl⟩
  .have c:=Bj.2 b;have a:Gh k=2:=(by unfold Gh;rw[Ac q,Ac b]);rw[a];replace⟨q,a,b⟩:=H3 q a b;go_enter func101,ntmps101;go_wp2;go_ret;exact⟨rfl,rfl⟩
def Asr {α:Type} {p:α->Bool} {l:List α} {k:Nat} {x:α} (h:∀i y,i<k->l[i]?=Z y->p y=false) (d:l[k]?=Z x) (c:p x=true):l.findIdx? p=Z k:=by
 obtain⟨b,e⟩:=Aq.1 d;rw[Aaa];refine⟨b,by rw[e];exact c,λj a=>?_⟩;have:=h j _ a (A4 ao9);simp[this]
def Ass {α:Type} {p:α->Bool} {l:List α} {n:Nat} (c:l.length=n) (h:∀i y,i<n->l[i]?=Z y->p y=false):l.findIdx? p=I:=by
 rw[List.findIdx?_eq_none_iff];intro x b;obtain⟨i,a,e⟩:=Pb.1 b;exact h i x ao9 (by rw[A4 a,e])
def Aic (x:ar) (attempt node:Int) (w:WD) (e:Ending) (w':WD):Prop:=
 w'=w/\((Gt x.pl attempt node=I/\e=K (Q I))\/∃k pb,Gt x.pl attempt node=Z k/\x.po=Z ⟨pb,0,I⟩/\k<x.pn/\e=K (Q (Z ⟨pb,k*2,I⟩)))
def Aid {w:WD} {b:Nat} {x:ar} (hb:Bc w b x) (hp:Bv w x) (attempt node:Int):CS prog 102 #[Q (Z ⟨b,0,I⟩),G O attempt,G O node] w (Aic x attempt node w):=by
 have hl:=Ji hp
 have a:Gt x.pl attempt node=if dp x.pl.lf.st=true/\x.pl.lf.bp=attempt then x.pl.parts.findIdx? (λp=>decide (p.1=node) && decide (p.2=0))else I:=rfl
 have am:=Bk hb 14 (G O x.pl.lf.st) rfl;have an:=Bk hb 15 (G O x.pl.lf.bp) rfl;have ao:=Bk hb 21 (J x.po x.pn x.pc) rfl;obtain⟨st,af⟩:=Ex (x.pl.lf.st);obtain⟨at_,ac⟩:=Ex (x.pl.lf.bp);obtain⟨po,u⟩:=Ex (x.po);obtain⟨pn,f⟩:=Ex (x.pn);obtain⟨pc,ad⟩:=Ex (x.pc);have ap:pn<=9223372036854775807:=by rw[f];exact(Ah7 hp).max
 rw[<-af]at am a;rw[<-ac]at an a;rw[<-u,<-f,<-ad]at ao;have j:=Q8 st w;obtain⟨q,hq⟩:=Ex (dp st);rw[<-hq]at j a;replace⟨hb,hp,hl,af,ac,u,f,ad⟩:=H8 hb hp hl af ac u f ad;replace⟨j,hq⟩:=H2 j hq
 cases q with
 | false=>
  have d:Gt x.pl attempt node=I:=by rw[a];exact Ac (λc=>by cases c.1)
  replace⟨a,d⟩:=H2 a d;go_enter func102,ntmps102;go_wp2_with fail;refine j.mono ?_;rintro e w' ⟨rfl,rfl⟩;go_wp2;go_ret;exact⟨rfl,.inl ⟨d.out,rfl⟩⟩
 | true=>
  by_cases qa:at_=attempt
  .have d1:(at_ != attempt)=false:=(by rw[qa];simp);have g:Gt x.pl attempt node=x.pl.parts.findIdx? (λp=>decide (p.1=node) && decide (p.2=0)):=(by rw[a];exact Ad ⟨rfl,qa⟩);replace⟨a,g,qa⟩:=H3 a g qa;go_enter func102,ntmps102;go_wp2_with fail;refine j.mono ?_;rintro e w' ⟨rfl,rfl⟩;go_wp2;go_loopw [7,8,30] (λ_ _ i wr=>∃k:Nat,i=G O k/\k<=pn/\Hid (∀i y,i<k->x.pl.parts[i]?=Z y->(decide (y.1=node) && decide (y.2=0))=false)/\wr=w') (λ_ _ i _=>pn-(intOf i).toNat)
   case atStart=>exact⟨0,rfl,As _,(λi y h=>by omega),rfl⟩
   case round=>
    obtain⟨k,rfl,hk,l,rfl⟩:=hrel;by_cases hc:k<pn
    .have al:(k:Int)<pn:=ao9;have av:(0:Int)<=(k:Int):=ao9;obtain⟨pb,p,e,t,c0,c1⟩:=Pw hp.out (k:=k) (by rw[<-f.out];exact hc);have v:=u.out;rw[e]at v;obtain⟨p1,p2⟩:=p;subst v
     have s:(decide (p1=node) && decide (p2=0))=false->∀i y,i<k+1->x.pl.parts[i]?=Z y->(decide (y.1=node) && decide (y.2=0))=false:=λhf i y hi m=>by
      by_cases c:i=k
      .subst c;rw[t]at m;injection m with m;rw[<-m];exact hf
      .exact l.out i y ao9 m
     have o:(decide (p1=node) && decide (p2=0))=true->Gt x.pl attempt node=Z k:=λhf=>by
      rw[g.out];exact Asr l.out t hf
     replace⟨t,s,o,e⟩:=H4 t s o e;by_cases r:p1=node
     .have d2:(p1 == node)=true:=(by rw[r];simp);by_cases z:p2=0
      .have d3:(p2 == (0:Int))=true:=(by rw[z];rfl);have m:=o (by simp[r,z]);replace⟨r,z,m⟩:=H3 r z m;go_wp2;go_ret;exact⟨rfl,.inr ⟨k,pb,m.out,e.out,by rw[<-f.out];exact hc,rfl⟩⟩
      .have d3:=Bj.2 z;have hn:=s (by simp[z]);replace⟨r,z,hn⟩:=H3 r z hn;go_wp2;go_roundw
       case rel=>exact⟨k+1,by go_num,ao9,hn.out,trivial⟩
       case measure=>simp[intOf];omega
     .have d2:=Bj.2 r;have hn:=s (by simp[r]);replace⟨r,hn⟩:=H2 r hn;go_wp2;go_roundw
      case rel=>exact⟨k+1,by go_num,ao9,hn.out,trivial⟩
      case measure=>simp[intOf];omega
    .have al:¬(k:Int)<pn:=ao9
     have d:Gt x.pl attempt node=I:=by rw[g.out];exact Ass (n:=pn) (by rw[hl.out,f.out]) λi y hi m=>l.out i y ao9 m
     replace d:=Hh d;go_wp2;go_ret;exact⟨rfl,.inl ⟨d.out,rfl⟩⟩
  .have d1:(at_ != attempt)=true:=(by rw[Fs];exact qa);have d:Gt x.pl attempt node=I:=(by rw[a];exact Ac (λc=>qa c.2));replace⟨a,d,qa⟩:=H3 a d qa;go_enter func102,ntmps102;go_wp2_with fail;refine j.mono ?_;rintro e w' ⟨rfl,rfl⟩;go_wp2;go_ret;exact⟨rfl,.inl ⟨d.out,rfl⟩⟩
variable {w w':WD} {T:Tv}
def An.lg (h:An w T) {j:Nat×ar} (f:j∈T.js) {b:Nat} {c:Array VL} {a:TypeId} (d:w.heap[b]?=Z (V c a (0,0))) (h1:a≠46):j.1≠b:=λe=>by
 have:=h.box j f;rw[Bc,e,d]at this;injection this with this;injection this with _ this;exact h1 this
def An.fp (h:An w T) {b:Nat} {c:Array VL} {d:TypeId} (f:w.heap[b]?=Z (V c d (0,0))):T.mb≠b:=λe=>by
 obtain⟨i,g,a⟩:=h.cls.aw;rw[e,f]at a;injection a with a;cases a
def An.px (h:An w T) (e t:Int) (a:Mod (λk=>k=T.tb) w w') (i:w'.heap[T.tb]?=Z (V #[G O e,G O t,.map (Z T.mb),T.nv,T.jv,Q (Z ⟨T.fb,0,I⟩),T.cv] 115 (0,0))):An w' { T with ai:=e,tick:=t }:=by
 have g:T.az T.tb:=.inl rfl
 have b:Mod T.az w w':=a.mono λk _ e=>by rw[e];exact g
 refine⟨i,h.cls.mod a (h.fp h.head),Bb h.nodes a (λk e c=>Bq h.nodes h.head ad9 (by rw[<-c];exact e)),Bb h.ab a (λk e c=>Bq h.ab h.head ad9 (by rw[<-c];exact e)),
  Bb h.bh a (λk e c=>Bq h.bh h.head ad9 (by rw[<-c];exact e)),λj d=>a.aw (h.box j d) (h.lg d h.head ad9),λj d=>?_,h.one,h.two,h.dn.mod b (λ_ c=>.inl c),h.same⟩
 have f:=h.ok j d;exact f.mod b (λ_ _ c=>c) (Bb f.parts a (λk e c=>Bq f.parts h.head ad9 (by rw[<-c];exact e)))
def An.sa (h:An w T) (l:List Er) (t:l.length=T.nodes.length) (d:Mod (λk=>T.nv.ownBlock=Z k) w w') (q:w'.ownsRow 0 119 3 T.nv l.length (Av Ej l)):An w' { T with nodes:=l }:=by
 have f:Mod T.az w w':=d.mono λk _ e=>.inr (.inr (.inl e))
 have i:∀k,T.nv.ownBlock=Z k->∃c,w.heap[k]?=Z (V c 119 (0,0)):=λk e=>by
  obtain⟨c,b,_⟩:=C8 h.nodes e;exact⟨c,b⟩
 have a:∀ {B size n:Nat} {r:TypeId} {v:VL} {xs:List VL},w.ownsRow B r size v n xs->r≠119->∀k,v.ownBlock=Z k->¬T.nv.ownBlock=Z k:=λq o k s c=>by
  obtain⟨m,b⟩:=i k c;exact Bq q b o s
 refine⟨d.aw h.head (λc=>?_),h.cls.mod d (λc=>?_),q,Bb h.ab d (a h.ab ad9),Bb h.bh d (a h.bh ad9),λj g=>d.aw (h.box j g) (λc=>?_),λj g=>?_,h.one,h.two,h.dn.mod f (λ_ c=>.inl c),t.trans h.same⟩
 .obtain ⟨m,b⟩:=i _ c;have:=h.head;rw[b]at this;injection this with this;injection this with _ this;exact absurd this ad9
 .obtain ⟨m,b⟩:=i _ c;exact h.fp b rfl
 .obtain ⟨m,b⟩:=i _ c;exact h.lg g b ad9 rfl
 .have p:=h.ok j g;exact p.mod f (λ_ _ c=>c) (Bb p.parts d (a p.parts ad9))
def Aw0 {w:WD} {B size n:Nat} {b:TypeId} {g cap:Nat} {xs:List VL} (h:w.ownsRow B b size (J (Z ⟨g,0,I⟩) n cap) n xs) (o:Nat) (v:VL) :
  (w.setCell ⟨g,o,I⟩ v).ownsRow B b size (J (Z ⟨g,0,I⟩) n cap) n (xs.set o v):=by
 refine⟨by rw[Do];exact h.1,?_⟩;rcases h.2 with⟨e,_⟩|⟨l,c,a,e,j,k,h1,d,f,i⟩
 .simp at e
 .simp at e;obtain⟨rfl,rfl⟩:=e;refine .inr ⟨g,cap,a.setIfInBounds o v,rfl,j,Am k _ _,h1,d,by simpa using f,?_⟩;rw[<-i];simp[List.take_set]
def Aw1 (b:List Er) (i j:Nat) (v:VL) (f:Er->Er) (d:j<3) (c:∀x:Er,(Ej x).toList.set j v=(Ej (f x)).toList):(Av Ej b).set (i*3+j) v=Av Ej (b.modify i f):=by
 induction b generalizing i with
 | nil=>simp[Av]
 | cons p l ih=>
  have a:∀(q:Er) (m:List Er),Av Ej (q :: m)=(Ej q).toList++Av Ej m:=λq m=>by simp[Av]
  cases i with
  | zero=>
   rw[List.modify_zero_cons,a,a,<-c p,Nat.zero_mul,Cn,List.set_append];rw[Ad (by simpa using d)]
  | succ i=>
   rw[Wo,a,a,<-ih,List.set_append];rw[Ac (by simp;omega)];congr 2;simp;omega
end
section
open Go.RowKit Go.Maps Go.Lib
variable {w w1 w':WD} {B:Nat}
def Cc {B:Nat} {a w:WD} (h:BW B a w) {g o:Nat} {v:VL} (c:B<=g):BW B a (w.setCell ⟨g,o,I⟩ v):=
 ⟨h.os,h.tape,h.output,by have:=h.size;simpa[World.setCell]using this,λk b=>(Cm _ _ _ _ (λe=>by simp at e;omega)).trans (h.block k b)⟩
def Ig {n:Int} (h1:-9223372036854775808<=n) (a:n<=9223372036854775807):IntKind.i64.wrap n=n:=by
 simp[IntKind.wrap,IntKind.signed,IntKind.bits];omega
def Al.nil (w:WD) (B:Nat):Al w B (J I 0 0) []:=⟨rfl,.inl ⟨rfl,rfl⟩⟩
def Al.mod {S:Nat->Prop} {v:VL} {l:List Int} (h:Al w B v l) (a:Mod S w w') (b:∀k,v.ownBlock=Z k->¬S k):Al w' B v l:=⟨Bb h.row a b⟩
def Al.lt {v:VL} {l:List Int} (h:Al w B v l):∀k,v.ownBlock=Z k->B<=k/\k<w.heap.size:=λk a=>h.row.lt k a
def Al.le {v:VL} {l:List Int} {B':Nat} (h:Al w B v l) (a:B'<=B):Al w B' v l:=⟨Joins.ownsRow_le h.row a⟩
def Al.len {v:VL} {l:List Int} (h:Al w B v l):∃so n c,v=J so n c/\n=l.length:=by
 rcases h.row.2 with⟨rfl,h0⟩|⟨g,cap,a,rfl,_⟩
 .exact ⟨I,0,0,rfl,h0.symm⟩
 .exact ⟨_,_,_,rfl,rfl⟩
def Al.cell {g n c:Nat} {l:List Int} (h:Al w B (J (Z ⟨g,0,I⟩) n c) l) {i:Nat} {x:Int} (b:l[i]?=Z x):w.cell? ⟨g,i,I⟩=Z (G O x):=by
 have p:=(Aq.1 b).1;rcases h.row.2 with⟨e,_⟩|⟨j,cap,a,e,o,f,h1,k,m,d⟩
 .cases e
 .injection e with e1 e2 e3;injection e1 with e1;injection e1 with e1;subst e1
  have:(a.toList.take (l.length*1))[i]?=Z (G O x):=by rw[d];simp[Bu,b]
  rw[L5,Ad ao9]at this;simpa[World.cell?,f]using this
def Al.num {g n c:Nat} {l:List Int} (h:Al w B (J (Z ⟨g,0,I⟩) n c) l):n=l.length:=by
 obtain⟨so,m,a,e,b⟩:=h.len;injection e with _ e;omega
def M1 {p:Array Oper} {rest:List Oper} {o:Oper} {a:Act} {w:WD} {Q9q:Exit->Act->WD->Prop} (z:o.guard=I) (s x:Operand)
  (ho:o.op=.call { callee:=.builtin .append,args:=#[s,x],argTypes:=#[31,31] })
  (B L:Nat) (v:VL) (hs:a.eval s=v) {l:List Int} (f:Al w B v l) (t:l.length=L) (r:Addr) (c:Nat) (hx:a.eval x=J (Z r) 1 c) (k:Int) (hk:w.cell? r=Z (G O k)) (hL:L<=1000000000) (hb:B<=w.heap.size)
  (h:∀g cap w',Al w' B (J (Z ⟨g,0,I⟩) (L+1) cap) (l++[k])->w.grownBy w' v.ownBlock->(v.ownBlock=Z g\/g=w.heap.size)->wpList prog p Q9q rest (a.put o.dst (J (Z ⟨g,0,I⟩) (L+1) cap)) w') :
  wpList prog p Q9q (o :: rest) a w:=by
 obtain⟨i3,ac,af,i,m⟩:=B4 Md;subst t;refine R2 w z s x 31 ho B 3 i3 _ 1 8 M9 ac af i m rfl ad9 v l.length (Bu l) hs f.row r 1 c [G O k] hx rfl ?_ (by simp[Value.oneCell']) (Ff (n:=l.length) ao9) ao9 hb ?_
 .intro j u q
  match j,q with
  | 0,q=>
   simp at q;subst q;simpa[Addr.add]using hk
 .intro v' w' b d _ y;obtain⟨g,cap,rfl⟩:=Joins.ownsRow_form b ao9;refine h g cap w' ⟨?_⟩ d ?_
  .rw [Az];simpa[Bu]using b
  .rcases y with e|e
   .exact .inl e.symm
   .simp [Value.ownBlock]at e;exact .inr e
structure Cz (w:WD) (B g cap:Nat) (svs:List VL) (ls:List (List Int)):Prop where
 row:w.ownsRow B 31 1 (J (Z ⟨g,0,I⟩) ls.length cap) ls.length svs
 each:∀(i:Nat) (sv:VL) (l:List Int),svs[i]?=Z sv->ls[i]?=Z l->Al w B sv l
 two:svs.Pairwise λa b=>∀k,a.ownBlock=Z k->b.ownBlock≠Z k
 te:ls.length<=cap
variable {g cap:Nat} {svs:List VL} {ls:List (List Int)}
def Cz.len (h:Cz w B g cap svs ls):svs.length=ls.length:=by have:=h.row.1;omega
def Cz.aw (h:Cz w B g cap svs ls):B<=g/\g<w.heap.size/\∃c,w.heap[g]?=Z (V c 31 (0,0)):=by
 obtain⟨c,a,b⟩:=C8 h.row (g:=g) rfl;exact⟨b,Ab a,c,a⟩
def Cz.get (h:Cz w B g cap svs ls) {i:Nat} (d:i<ls.length):∃so n c l,svs[i]?=Z (J so n c)/\ls[i]?=Z l/\n=l.length/\w.cell? ⟨g,i,I⟩=Z (J so n c)/\Al w B (J so n c) l:=by
 have h1:svs[i]?=Z (svs[i]'(by rw[h.len];exact d)):=A4 _;have b:ls[i]?=Z ls[i]:=A4 _;have a:=h.each i _ _ h1 b;obtain⟨so,n,c,e,f⟩:=a.len;rw[e]at h1 a;refine⟨so,n,c,_,h1,b,f,?_,a⟩;rw[Fo h.row i ao9,h1]
def Cz.ne (h:Cz w B g cap svs ls) {i:Nat} {a:VL} (d:svs[i]?=Z a) {l:List Int} (e:ls[i]?=Z l):a.ownBlock≠Z g:=by
 obtain⟨_,_,c,b⟩:=h.aw;exact Bq (h.each i a l d e).row b ad9
def Cz.low (h:Cz w B g cap svs ls) (a:BW w.heap.size w w'):Cz w' B g cap svs ls:=
 ⟨Bb h.row (Mod.ag (S:=λ_=>False) a) (λ_ _ c=>c),λi d l h1 b=>(h.each i d l h1 b).mod (Mod.ag (S:=λ_=>False) a) (λ_ _ c=>c),h.two,h.te⟩
def Cz.off {S:Nat->Prop} (h:Cz w B g cap svs ls) (c:Mod S w w') (f:¬S g) (e:∀(i:Nat) (a:VL),svs[i]?=Z a->∀k,a.ownBlock=Z k->¬S k):Cz w' B g cap svs ls:=
 ⟨Bb h.row c (λk b=>by simp[Value.ownBlock]at b;subst b;exact f),λi a l h1 d=>(h.each i a l h1 d).mod c (λk b=>e i a h1 k b),h.two,h.te⟩
def Aw2 {svs:List VL} {i:Nat} {v:VL} (h:svs.Pairwise λa b=>∀k,a.ownBlock=Z k->b.ownBlock≠Z k) (m:∀(j:Nat) (u:VL),svs[j]?=Z u->j≠i->∀k,u.ownBlock=Z k->v.ownBlock≠Z k) :
  (svs.set i v).Pairwise λa b=>∀k,a.ownBlock=Z k->b.ownBlock≠Z k:=by
 refine O7.2 λa b n o g=>?_;have d:=A4 n;have c:=A4 o;generalize (svs.set i v)[a]=ya at d ⊢;generalize (svs.set i v)[b]=yb at c ⊢;rw[Ds]at d c;by_cases h1:i=a
 .subst h1;have f:i≠b:=ao9
  rw[Ac f]at c;simp only[Kk]at d;split at d
  .injection d with d;subst d;intro k l e;exact m b yb c ao9 k e l
  .cases d
 .rw [Ac h1]at d;by_cases f:i=b
  .subst f;simp only[Kk]at c;split at c
   .injection c with c;subst c;intro k l e;exact m a ya d ao9 k l e
   .cases c
  .rw [Ac f]at c;exact F1 h d c g
def Cz.put (h:Cz w B g cap svs ls) {i:Nat} {y o:VL} {l l':List Int} (r:svs[i]?=Z y) (hl:ls[i]?=Z l) (hg:w.grownBy w1 y.ownBlock) (ho:Al w1 B o l') (z:∀k,o.ownBlock=Z k->y.ownBlock=Z k\/k=w.heap.size)
  : Cz (w1.setCell ⟨g,i,I⟩ o) B g cap (svs.set i o) (ls.set i l'):=by
 have hm:=Mod.grown hg (λk f=>f);have t:=h.ne r hl;obtain⟨ac,ad,c,hc⟩:=h.aw;have q:=Bb h.row hm (λk f e=>by simp[Value.ownBlock]at f;subst f;exact t e)
 have x:o.ownBlock≠Z g:=λe=>by
  rcases z g e with e|e
  .exact t e
  .omega
 have s:=(Aq.1 r).1;have n:∀ {u:VL} {m:List Int},Al w1 B u m->u.ownBlock≠Z g->Al (w1.setCell ⟨g,i,I⟩ o) B u m:=λb hn=>⟨Bb b.row (Mod.setCell (S:=λk=>k=g) w1 g i o rfl) (λk f e=>hn (by rw[f,e]))⟩;refine⟨?_,?_,?_,?_⟩
 .rw [Do];exact(q.stored i o).1
 .intro j u m b a;rw[Ds]at b a;by_cases p:i=j
  .subst p;simp only[Kk]at b a;split at b
   .injection b with b;subst b;split at a
    .injection a with a;subst a;exact n ho x
    .cases a
   .rename_i hx;exact absurd s hx
  .rw [Ac p]at b a;have hj:=h.each j u m b a;refine n (hj.mod hm λk f e=>?_) (h.ne b a);rcases R3 p with d|d
   .exact F1 h.two r b d k e f
   .exact F1 h.two b r d k f e
 .refine Aw2 h.two λj u b v k f e=>?_;rcases z k e with e|e
  .rcases R3 v with d|d
   .exact F1 h.two b r d k f e
   .exact F1 h.two r b d k e f
  .have:j<ls.length:=by rw[<-h.len];exact(Aq.1 b).1
   have:=((h.each j u _ b (A4 this)).lt k f).2;omega
 .rw [Do];exact h.te
end
section
open Go.RowKit Go.Maps Go.Lib
variable{d:Nat}{u v:V4}{w wr:WD}
def Adf (n:Int) (w:WD):CS prog 297 #[G O n] w λe w'=>e=K (G O (E9 n))/\w'=w:=by
 go_enter func297,ntmps297;go_wp2;go_ret;exact⟨Ade (by simp[E9]),rfl⟩
def P9 (n:Int):0<=E9 n/\E9 n<=1152921504606846976:=by unfold E9;omega
def Qa (d:Nat) (u v:V4):V4:=⟨if 0<d then J3 u.a v.a else 0,if 1<d then J3 u.b v.b else 0,if 2<d then J3 u.c v.c else 0,if 3<d then J3 u.d v.d else 0⟩
structure sw (w:WD) (u v:V4) (d:Nat) (wr:WD):Prop where
 low:BW w.heap.size w wr
 b1:wr.heap[w.heap.size]?=Z (V u.cells 30 (0,0))
 b2:wr.heap[w.heap.size+1]?=Z (V v.cells 30 (0,0))
 res:wr.heap[w.heap.size+2]?=Z (V V4.zero.cells 30 (0,0))
 acc:wr.heap[w.heap.size+3]?=Z (V (Qa d u v).cells 30 (0,0))
def sw.next {w wr w':WD}   (h:sw w u v d wr) (a:BW wr.heap.size wr w'):sw w u v d w':=
 ⟨h.low.trans (a.mono h.low.size),Ae a h.b1 (Ab h.b1),Ae a h.b2 (Ab h.b2),Ae a h.res (Ab h.res),Ae a h.acc (Ab h.acc)⟩
def sw.set    (h:sw w u v d wr) (a:d<4):sw w u v (d+1) (wr.setCell ⟨w.heap.size+3,d,I⟩ (G O (J3 (u.get d) (v.get d)))):=
 ⟨Cc h.low ao9,(Cm _ _ _ _ (λe=>by simp at e)).trans h.b1,(Cm _ _ _ _ (λe=>by simp at e)).trans h.b2,(Cm _ _ _ _ (λe=>by simp at e)).trans h.res,by
  have e:(Qa d u v).cells.setIfInBounds d (G O (J3 (u.get d) (v.get d)))=(Qa (d+1) u v).cells:=by rcases(by omega:d=0\/d=1\/d=2\/d=3)with rfl|rfl|rfl|rfl<;>simp[Qa,V4.get]
  rw[<-e];exact Am h.acc _ _⟩
def Vw  {b:Nat}  {T:TypeId} {fr:Nat×Nat} (h:w.heap[b]?=Z (V v.cells T fr))  (a:d<4):w.cell? ⟨b,d,I⟩=Z (G O (v.get d)):=by
 rw[Aa h d]
 rcases(by omega:d=0\/d=1\/d=2\/d=3)with rfl|rfl|rfl|rfl<;>rfl
def Axi (u v:V4)  (a:d<4):(Qa d u v).get d=0:=by
 rcases(by omega:d=0\/d=1\/d=2\/d=3)with rfl|rfl|rfl|rfl<;>simp[Qa,V4.get]
def Ak3 (u v:V4) (w:WD):CS prog 252 #[u.val,v.val] w λe w'=>e=K (Ko u v).val/\BW w.heap.size w w':=by
 obtain⟨W0,h⟩:=Ex ((((w.alloc (V u.cells 30)).alloc (V v.cells 30)).alloc (V #[G O 0,G O 0,G O 0,G O 0] 30)).alloc (V #[G O 0,G O 0,G O 0,G O 0] 30));have g:sw w u v 0 W0:=by rw[h];exact⟨((Bn.alloc as9 _).alloc (by simp;omega) _).alloc (by simp;omega) _,Aj _ (Aj _ (Aj _ (Ah _ _))),Aj _ (Aj _ (A5 _ _ as9)),Aj _ (A5 _ _ as9),A5 _ _ as9⟩
 replace g:=Hh g;go_enter func252,ntmps252;go_upto_region 2 with fail;rw[<-h];clear h;go_wp2_with fail;go_loopw [6,7] (λ_ iv wr=>∃(d:Nat),iv=G O d/\d<=4/\Hid (sw w u v d wr)) (λ_ iv _=>4-(intOf iv).toNat)
 case atStart=>exact⟨0,rfl,ao9,g⟩
 case round=>
  obtain⟨d,rfl,af,b⟩:=hrel;by_cases c:d<4
  .have ac:(d:Int)<4:=ao9;have ad:(0:Int)<=(d:Int):=ao9;obtain⟨x,p⟩:=Ex (u.get d);obtain⟨y,q⟩:=Ex (v.get d);have u0:=p▸Vw b.b1 c;have v0:=q▸Vw b.b2 c;have z0:=(Vw b.acc c).trans (by rw[Axi _ _ c]);have fr:=Af b.acc
   have i:∀n,sw w u v (d+1) ((wr.drewN n).setCell ⟨w.heap.size+3,d,I⟩ (G O (J3 x y))):=λn=>by
    rw[p,q];exact(b.next (Ba _ wr n)).set c
   have r:=Adf x;have s:=Adf y
   have m:∀W,CS prog 297 #[G O (IntKind.i64.wrap (E9 x+E9 y))] W λe w'=>e=K (G O (J3 x y))/\w'=W:=by rw[Ig (by have:=P9 x;have:=P9 y;omega) (by have:=P9 x;have:=P9 y;omega)];exact Adf (E9 x+E9 y)
   obtain⟨r1,j⟩:=Ex (E9 x);obtain⟨r2,k⟩:=Ex (E9 y);obtain⟨r3,l⟩:=Ex (J3 x y);rw[<-j]at r m;rw[<-k]at s m;rw[<-l]at m i;replace⟨i,r,s,m,j,k,l,p⟩:=H8 i r s m j k l p;replace q:=Hh q;go_upto_region 5 with fail
   go_region_with (first
    | (go_at_call 297;((with_reducible refine(r.out _).mono ?_);rintro e w1 ⟨rfl,rfl⟩))
    | (go_at_call 297;((with_reducible refine(s.out _).mono ?_);rintro e w1 ⟨rfl,rfl⟩))
    | (go_at_call 297;((with_reducible refine(m.out _).mono ?_);rintro e w1 ⟨rfl,rfl⟩)))
   all_goals
    go_wp2_with fail;go_roundw
    case rel=>exact⟨d+1,by go_num,ao9,Hh (by first|exact i.out 0|exact i.out 1|exact i.out 2|exact i.out 3)⟩
    case measure=>simp[intOf];omega
  .have t:d=4:=ao9;subst t;obtain⟨z,o⟩:=Ex (Qa 4 u v);have f:z=Ko u v:=(by rw[o];simp[Qa,Ko]);rw[f]at o;obtain⟨za,zb,zc,zd⟩:=z;have a:=b.acc;rw[<-o,<-f]at a;have u0:=Bk a 0 (G O za) rfl;have u1:=Bk a 1 (G O zb) rfl;have u2:=Bk a 2 (G O zc) rfl;have u3:=Bk a 3 (G O zd) rfl;have r0:=Bk b.res 0 (G O 0) rfl;have r1:=Bk b.res 1 (G O 0) rfl;have r2:=Bk b.res 2 (G O 0) rfl;have r3:=Bk b.res 3 (G O 0) rfl;have fr:=Af b.res;replace⟨o,f,a⟩:=H3 o f a;go_wp2;refine Ak (v:=V4.val ⟨za,zb,zc,zd⟩) (by simp[results,results252,go_sem,r0,r1,r2,r3]) rfl ⟨by rw[<-f.out],?_⟩;exact Cc (Cc (Cc (Cc b.low ao9) ao9) ao9) ao9
end
section
open Go.ChangeShapes Go.WideShapes Go.ChangeAt Go.RowKit
def O4 {n:Int} (h:(Lit.int O n).wf=true):-9223372036854775808<=n/\n<=9223372036854775807:=by
 simp[Lit.wf,IntKind.min,IntKind.max,IntKind.signed,IntKind.bits]at h;omega
def A1x:prog.cellsOf 4=1:=by kernel_rfl
def A1y:prog.cellsOf 31=1:=by kernel_rfl
def Am6:prog.cellsOf 33=13:=by kernel_rfl
def A1z {α:Type} {l:List α} (h:l.length=13):∃a b c d e f g i j k m n o,l=[a,b,c,d,e,f,g,i,j,k,m,n,o]:=by
 match l,h with
 | [a,b,c,d,e,f,g,i,j,k,m,n,o],_=>exact⟨a,b,c,d,e,f,g,i,j,k,m,n,o,rfl⟩
section
variable {H:Type} {enc:TypeId×VL->H} {w:WD} {held:Bool} {fuel:Nat} {cs:List VL} {x:DataW H×List MemPlace}
def A10 {c:VL} (h:DataW.trod enc prog w 0 (λ_=>true) held fuel 31 [c]=Z x):∃a n d xs,c=J a n d/\Ap w a n xs/\n<=d:=by
 obtain⟨a,n,d,xs,e,g,l⟩:=Aby (0:Int) (λs=>#[G O s]) 1 (λ_ _=>True) M9 Q5 ad9 (λ_=>rfl) (λfuel cs x h=>by
  obtain⟨s,e,_⟩:=Is D5 h
  exact⟨s,e,trivial⟩) h
 refine⟨a,n,d,xs,e,⟨g.len,g.max,λi x m=>?_⟩,l⟩;obtain⟨b,j,e,f,k,_⟩:=g.cell i x m;have:=k 0 ao9;rw[Oi,Iu]at this;exact⟨b,j,e,f,this⟩
def A11 (h:DataW.trod enc prog w 0 (λ_=>true) held fuel 33 cs=Z x):∃a:ay,cs=a.cells.toList/\a.ok w:=by
 obtain⟨xs,n,_,rfl,hl,c,b⟩:=DataW.trod_struct underlying33 h;rw[Am6]at hl;obtain⟨c0,c1,c2,c3,c4,c5,c6,c7,c8,c9,ac,ad,af,rfl⟩:=A1z hl
 match xs,c with
 | [y0,y1,y2,y3,y4,y5,y6,y7,y8,y9],_=>
  have h0:=b 0 _ rfl;have h1:=b 1 _ rfl;have s:=b 2 _ rfl;have t:=b 3 _ rfl;have u:=b 4 _ rfl;have y:=b 5 _ rfl;have z:=b 6 _ rfl;have h7:=b 7 _ rfl;have h8:=b 8 _ rfl;have h9:=b 9 _ rfl;simp[Aqk,Agw,Q5,A1x,A1y]at h0 h1 s t u y z h7 h8 h9;obtain⟨s0,g,_,e⟩:=DataW.trod_string Dr h0;obtain⟨s1,i,_,f⟩:=DataW.trod_string Dr h1;obtain⟨n2,j,_⟩:=Is D5 s;obtain⟨v,r⟩:=Aqo t;obtain⟨n4,k,_⟩:=Is D5 u;obtain⟨n5,l,_⟩:=Is D5 y;obtain⟨n6,o,_⟩:=Is D5 z;obtain⟨n7,p,_⟩:=Is D5 h7;obtain⟨b8,q,_⟩:=DataW.trod_bool Aew h8;obtain⟨so,m,cp,zs,rfl,hz,d⟩:=A10 h9;simp at g i j r k l o p q;obtain⟨rfl,rfl,rfl,rfl⟩:=r;subst g i j k l o p q;exact⟨⟨⟨s0,s1,n2,v,n4,n5,n6,n7,b8,zs⟩,so,m,cp⟩,rfl,⟨hz,d,e,f⟩⟩
end
section
variable {H:Type} {enc:TypeId×VL->H} {w:WD} {held:Bool} {b0:Nat} {r:Reach} {v:VL} {d:DataW H} {p:List MemPlace}
