/- Parts of a proof. No condition. -/
import Derived.Test.YtimlcnhcjndijaaGreatDoorH11
import Derived.Test.YtimlcnhcjndijaaGreatDoorH12
import Derived.Test.YtimlcnhcjndijaaGreatDoorH13
set_option linter.all false
set_option maxRecDepth 100000
set_option maxHeartbeats 3200000
namespace Go.Proofs.YtimlcnhcjndijaaGreatDoor
open Option renaming none->I,some->O
open Obj renaming cells->J
open IntKind renaming i64->G
open Value renaming int->Z,slice->V,bool->Y,string->E,pointer->K
open Ending renaming returned->Q
open Go renaming World->WD,Value->VL,Calls->CS
open Go.RowKit renaming Below->BW
open Go.Proofs.Tryz
section
open Go.RowKit Go.Maps Go.Lib
structure Mod (S:Nat->Prop) (w w':WD):Prop where
 os:w'.os=w.os
 tape:w'.tape=w.tape
 output:w'.output=w.output
 size:w.heap.size<=w'.heap.size
 block:∀k,k<w.heap.size->¬S k->w'.heap[k]?=w.heap[k]?
def Mod.refl (S:Nat->Prop) (w:WD):Mod S w w:=⟨rfl,rfl,rfl,Nat.le_refl _,λ_ _ _=>rfl⟩
def Mod.ag {S:Nat->Prop} {w w':WD} (h:BW w.heap.size w w'):Mod S w w':=⟨h.os,h.tape,h.output,h.size,λk a _=>h.block k a⟩
def Mod.mono {S S':Nat->Prop} {w w':WD} (h:Mod S w w') (d:∀k,k<w.heap.size->S k->S' k):Mod S' w w':=⟨h.os,h.tape,h.output,h.size,λk a b=>h.block k a λc=>b (d k a c)⟩
def Mod.then {S S':Nat->Prop} {w w1 e:WD} (h:Mod S w w1) (a:Mod S' w1 e) (f:∀k,k<w.heap.size->S' k->S k):Mod S w e:=
 ⟨a.os.trans h.os,a.tape.trans h.tape,a.output.trans h.output,Aw h.size a.size,λk b d=>
  (a.block k (B4 b h.size) λc=>d (f k b c)).trans (h.block k b d)⟩
def Mod.trans {S:Nat->Prop} {w w1 a:WD} (h:Mod S w w1) (b:Mod S w1 a):Mod S w a:=h.then b λ_ _ c=>c
def Mod.low {S:Nat->Prop} {w w1 a:WD} (h:Mod S w w1) (b:BW w1.heap.size w1 a):Mod S w a:=h.trans (Mod.ag b)
def Mod.setCell {S:Nat->Prop} (w:WD) (b o:Nat) (v:VL) (a:S b):Mod S w (w.setCell ⟨b,o,I⟩ v):=
 ⟨rfl,rfl,rfl,by simp[World.setCell],λk _ c=>Ci _ _ _ _ (λe=>c (e▸a))⟩
def Mod.set {S:Nat->Prop} {w w1:WD} (h:Mod S w w1) (b o:Nat) (v:VL) (a:S b):Mod S w (w1.setCell ⟨b,o,I⟩ v):=h.trans (Mod.setCell w1 b o v a)
def Mod.grown {S:Nat->Prop} {w w':WD} {row:Option Nat} (h:w.grownBy w' row) (c:∀k,row=O k->S k):Mod S w w':=
 ⟨h.os,h.tape,h.output,h.size,λk a b=>h.block k a λe=>b (c k e.symm)⟩
def Mod.alloc (S:Nat->Prop) (w:WD) (o:Obj):Mod S w (w.alloc o):=Mod.ag Bn
def Mod.drew {S:Nat->Prop} {w w':WD} (h:Mod S w w'):Mod S w w'.drew:=⟨h.os,h.tape,h.output,h.size,h.block⟩
def Mod.below {S:Nat->Prop} {B:Nat} {w w':WD} (h:Mod S w w') (b:B<=w.heap.size) (a:∀k,S k->B<=k):BW B w w':=
 ⟨h.os,h.tape,h.output,h.size,λk d=>h.block k ao9 λc=>by have:=a k c;omega⟩
def Mod.ar {S:Nat->Prop} {k:Nat} {w w':WD} {o:Obj} (h:Mod S w w') (a:w.heap[k]?=O o) (b:¬S k):w'.heap[k]?=O o:=(h.block k (Ac a) b).trans a
def A8 {S:Nat->Prop} {w w':WD} {B size n:Nat} {T:TypeId} {v:VL} {xs:List VL} (h:w.ownsRow B T size v n xs) (d:Mod S w w') (f:∀k,v.ownBlock=O k->¬S k):w'.ownsRow B T size v n xs:=by
 refine⟨h.1,?_⟩;rcases h.2 with e|⟨g,cap,a,rfl,c,b,rest⟩
 .exact .inl e
 .exact .inr ⟨g,cap,a,rfl,c,d.ar b (f g rfl),rest⟩
def Cq {w:WD} {B size n:Nat} {T:TypeId} {v:VL} {xs:List VL} (h:w.ownsRow B T size v n xs) {g:Nat} (b:v.ownBlock=O g):∃a,w.heap[g]?=O (J a T (0,0))/\B<=g:=by
 rcases h.2 with⟨rfl,_⟩|⟨e,cap,a,rfl,d,c,_⟩
 .simp [Value.ownBlock]at b
 .simp [Value.ownBlock]at b;subst b;exact⟨a,c,d⟩
def Bx {w:WD} {B size n:Nat} {T f:TypeId} {v:VL} {xs:List VL} (h:w.ownsRow B T size v n xs) {b:Nat} {c:Array VL} {fr:Nat×Nat} (a:w.heap[b]?=O (J c f fr)) (d:T≠f):v.ownBlock≠O b:=λe=>by
 obtain⟨g,i,_⟩:=Cq h e;rw[i]at a;injection a with a;injection a with _ a;exact d a
def Aoy {w:WD} {B size n:Nat} {T:TypeId} {v:VL} {xs:List VL} (h:w.ownsRow B T size v n xs) {b:Nat} {f:Array MapEntry} {c:Nat} (a:w.heap[b]?=O (.map f c)):v.ownBlock≠O b:=λe=>by
 obtain⟨d,g,_⟩:=Cq h e;rw[g]at a;injection a with a;cases a
structure D1 (w:WD) (S:Nat->Prop) (so:Option Addr) (n:Nat) (l:List Int):Prop where
 row:Ao w so n l
 off:0<n->∀b o,so=O ⟨b,o,I⟩->¬S b
def D1.mod {S S':Nat->Prop} {w w':WD} {so:Option Addr} {n:Nat} {l:List Int} (h:D1 w S so n l) (f:Mod S w w') (p:∀k,k<w.heap.size->S' k->S k):D1 w' S' so n l:=
 ⟨⟨h.row.len,h.row.max,λi x d=>by
  obtain⟨b,c,e,a,m⟩:=h.row.cell i x d;have r:=(Ap.1 d).1;refine⟨b,c,e,B4 a f.size,?_⟩;rw[<-m]
  simp only[World.cell?,f.block b a (h.off (by have:=h.row.len;omega) b c e)]⟩,λh0 b o e j=>by
  obtain⟨x,d⟩:=h.row.get (i:=0) h0;obtain⟨q,g,e',a,_⟩:=h.row.cell 0 x d;rw[e]at e';cases e'
  exact h.off h0 b o e (p b a j)⟩
def Afd (w:WD) (S:Nat->Prop):D1 w S I 0 []:=⟨Qi w,λh=>absurd h ao9⟩
abbrev Fh (p:Int×Int):Array VL:=#[Z G p.1,Z G p.2]
structure aq where
 pl:Jb
 so:Option Addr
 sn:Nat
 sc:Nat
 go:Option Addr
 gn:Nat
 gc:Nat
 po:Option Addr
 pn:Nat
 pc:Nat
abbrev aq.cells (x:aq):Array VL:=#[Z G x.pl.id,E x.pl.sp.user,E x.pl.sp.part,Z G x.pl.sp.nodes,Z G x.pl.sp.df.a,Z G x.pl.sp.df.b,Z G x.pl.sp.df.c,Z G x.pl.sp.df.d,Z G x.pl.sp.wall,Z G x.pl.sp.prio,Z G x.pl.sp.array,Z G x.pl.sp.ae,Y x.pl.sp.held,V x.so x.sn x.sc,Z G x.pl.lf.st,Z G x.pl.lf.bp,Z G x.pl.lf.left,Y x.pl.lf.wall,Y x.pl.lf.stop,Z G x.pl.start,V x.go x.gn x.gc,V x.po x.pn x.pc]
abbrev aq.val (x:aq):VL:=.agg #[Z G x.pl.id,E x.pl.sp.user,E x.pl.sp.part,Z G x.pl.sp.nodes,Z G x.pl.sp.df.a,Z G x.pl.sp.df.b,Z G x.pl.sp.df.c,Z G x.pl.sp.df.d,Z G x.pl.sp.wall,Z G x.pl.sp.prio,Z G x.pl.sp.array,Z G x.pl.sp.ae,Y x.pl.sp.held,V x.so x.sn x.sc,Z G x.pl.lf.st,Z G x.pl.lf.bp,Z G x.pl.lf.left,Y x.pl.lf.wall,Y x.pl.lf.stop,Z G x.pl.start,V x.go x.gn x.gc,V x.po x.pn x.pc]
def aq.pb (x:aq):Option Nat:=(Value.slice x.po x.pn x.pc).ownBlock
def Ba (w:WD) (b:Nat) (x:aq):Prop:=w.heap[b]?=O (J x.cells 46 (0,0))
def Bo (w:WD) (x:aq):Prop:=w.ownsRow 0 65 2 (V x.po x.pn x.pc) x.pn (Aq Fh x.pl.parts)
structure Nb (w:WD) (S:Nat->Prop) (x:aq):Prop where
 after:D1 w S x.so x.sn x.pl.sp.after
 oo:x.sn<=x.sc
 aj:D1 w S x.go x.gn x.pl.aj
 nf:x.gn<=x.gc
 parts:Bo w x
 user:x.pl.sp.user.size<=maxLen
 part:x.pl.sp.part.size<=maxLen
def aq.zero:aq:=⟨⟨0,dn.zero,Lf.zero,0,[],[]⟩,I,0,0,I,0,0,I,0,0⟩
def aq.bm (x:aq) (l:Lf):aq:={ x with pl:={ x.pl with lf:=l } }
def aq.bare (x:aq):aq:={ x with pl:=x.pl.bare,go:=I,gn:=0,gc:=0 }
def Afe (p:Int×Int):(Fh p).size=2:=rfl
def I9 {w:WD} {x:aq} (h:Bo w x):x.pl.parts.length=x.pn:=by
 have:=h.1
 have e:(Aq Fh x.pl.parts).length=x.pl.parts.length*2:=by
  induction x.pl.parts with
  | nil=>rfl
  | cons p l ih=>simp[Aq]at ih ⊢;omega
 omega
abbrev E2 (x:Ej):Array VL:=#[Y x.up,Y x.bq,Z G x.since]
def Gx (c:Cl):VL:=.agg #[Z G c.seq,Z G c.e,Z G c.first,Z G c.last]
structure Tv where
 tb:Nat
 mb:Nat
 nv:VL
 jv:VL
 fb:Nat
 fm:Nat
 fl:Nat
 cv:VL
 ai:Int
 tick:Int
 cls:List (Int×Cl)
 nodes:List Ej
 js:List (Nat×aq)
 vs:List ay
def Tv.pl (T:Tv):dv:=⟨T.ai,T.tick,T.cls,T.nodes,T.js.map λj=>j.2.pl⟩
def Tv.bh (T:Tv) (b:Nat):Prop:=b=T.tb\/b=T.mb\/T.nv.ownBlock=O b\/T.jv.ownBlock=O b\/∃j,j∈T.js/\(j.1=b\/j.2.pb=O b)
def mq (c:Cl):DU:=.agg [.lit (.int G c.seq),.lit (.int G c.e),.lit (.int G c.first),.lit (.int G c.last)]
def Fi (n:Int):Lit:=.int G n
def Cl.zero:Cl:=⟨0,0,0,0⟩
def Aoz {c d:Cl} (h:Gx c=Gx d):c=d:=by
 obtain⟨a1,a2,a3,f⟩:=c;obtain⟨g,i,j,k⟩:=d;simp[Gx]at h;obtain⟨h1,a,b,e⟩:=h;subst h1 a b e;rfl
def Ao0 {c d:Cl} (h:mq c=mq d):c=d:=by
 obtain⟨a1,a2,a3,f⟩:=c;obtain⟨g,i,j,k⟩:=d;simp[mq]at h;obtain⟨h1,a,b,e⟩:=h;subst h1 a b e;rfl
open Classical in
noncomputable def O8 (v:VL):Option (DU×List MemPlace):=if h:∃c,v=Gx c then O (mq h.choose,[])else I
def Aff (c:Cl):O8 (Gx c)=O (mq c,[]):=by
 unfold O8;have h:∃d,Gx c=Gx d:=⟨c,rfl⟩;rw[M7 h,<-Aoz h.choose_spec]
def Ao1 {v:VL} {z:DU×List MemPlace} (h:O8 v=O z):∃c,v=Gx c/\z=(mq c,[]):=by
 unfold O8 at h;split at h
 .rename_i a;injection h with h;exact⟨a.choose,a.choose_spec,h.symm⟩
 .cases h
def Ao2 {v:VL} {c:Cl} {a:List MemPlace} (h:O8 v=O (mq c,a)):v=Gx c:=by
 obtain⟨d,rfl,e⟩:=Ao1 h;injection e with e _;rw[Ao0 e]
def Ja (l:List (Int×Cl)):DU:=.map (l.map λp=>(Fi p.1,mq p.2))
def D2 (l:List (Int×Cl)) (id:Int):Cl:=((l.find? λp=>decide (p.1=id)).map Prod.snd).getD Cl.zero
def Kf (x:Int×Cl):List (Int×Cl)->List (Int×Cl)
 | []=>[x]
 | y :: r=>if x.1<y.1 then x :: y :: r else y :: Kf x r
def F2 (l:List (Int×Cl)) (id:Int) (c:Cl):List (Int×Cl):=Kf (id,c) (l.filter λp=>!decide (p.1=id))
def Ao3 (x:Int×Cl) (l:List (Int×Cl)):DataW.insert (H:=Unit) (Fi x.1,mq x.2) (l.map λp=>(Fi p.1,mq p.2))=(Kf x l).map λp=>(Fi p.1,mq p.2):=by
 induction l with
 | nil=>rfl
 | cons y r ih=>
  simp only[Ic,DataW.insert,Kf];by_cases h:x.1<y.1
  .have a:(Fi x.1).before (Fi y.1)=true:=(by simp[Fi,Lit.before,h]);rw[Ad h,Ad a];rfl
  .have a:(Fi x.1).before (Fi y.1)=false:=(by simp[Fi,Lit.before];omega);rw[Ab h,a];simp[ih]
def Afg (a b:Int):(Fi a).sameKey (Fi b)=decide (a=b):=by simp[Fi,Lit.sameKey]
def Ao4 (l:List (Int×Cl)) (id:Int) (c:Cl):(Ja l).put (Fi id) (mq c)=Ja (F2 l id c):=by
 unfold Ja F2;simp only[DataW.put];rw[<-Ao3,List.filter_map];simp[Ia,Afg]
def Ao5 (l:List (Int×Cl)) (id:Int):(Ja l).atKey (Fi id) (mq Cl.zero)=mq (D2 l id):=by
 unfold Ja D2;simp only[DataW.atKey];rw[List.find?_map];simp only[Ia,Afg]
 cases List.find? (λp:Int×Cl=>decide (p.1=id)) l<;>rfl
def Ao6 {w:WD} {P:Program} {k:TypeId} {R:VL->Option (DU×List MemPlace)} {b n:Nat} {l:List (Lit×DU)} (h:w.ownsMap P k R b n (.map l)):w.ownsMap P k R b l.length (.map l):=by
 obtain⟨d,a,e,F,f,c⟩:=h;refine⟨d,a,e,F,?_,c⟩;injection c with c;rw[c,length_sorted];simp
def K7 (w:WD) (mb:Nat) (l:List (Int×Cl)):Prop:=w.ownsMap (H:=Unit) prog 3 O8 mb l.length (Ja l)
def K7.ar {w:WD} {c:Nat} {l:List (Int×Cl)} (h:K7 w c l):∃b d,w.heap[c]?=O (.map b d):=by
 obtain⟨b,a,e,_⟩:=h;exact⟨b,a,e⟩
def K7.mod {S:Nat->Prop} {w w':WD} {b:Nat} {l:List (Int×Cl)} (h:K7 w b l) (f:Mod S w w') (g:¬S b):K7 w' b l:=by
 obtain⟨c,a,e,F,i,d⟩:=h;exact⟨c,a,f.ar e g,F,i,d⟩
structure Sa (w:WD) (S:Nat->Prop) (fb fm fl:Nat) (vs:List ay):Prop where
 ex:∃w0,lg w0 fb fm fl vs/\BW w0.heap.size w0 w/\∀b,S b->w0.heap.size<=b
 ok:Kd vs
def Sa.xw {w:WD} {S:Nat->Prop} {a c b:Nat} {vs:List ay} (h:Sa w S a c b vs):lg w a c b vs:=by
 obtain⟨e,h1,d,_⟩:=h.ex;exact h1.below d
def Sa.mod {S S':Nat->Prop} {w w':WD} {a e d:Nat} {vs:List ay} (h:Sa w S a e d vs) (j:Mod S w w') (l:∀k,S' k->S k\/w.heap.size<=k):Sa w' S' a e d vs:=by
 obtain⟨n,h1,f,g⟩:=h.ex;have m:=f.size;refine⟨⟨n,h1,f.trans (j.below m g),λb i=>?_⟩,h.ok⟩;rcases l b i with c|c
 .exact g b c
 .omega
structure Al (w:WD) (T:Tv):Prop where
 head:w.heap[T.tb]?=O (J #[Z G T.ai,Z G T.tick,.map (O T.mb),T.nv,T.jv,K (O ⟨T.fb,0,I⟩),T.cv] 115 (0,0))
 cls:K7 w T.mb T.cls
 nodes:w.ownsRow 0 119 3 T.nv T.nodes.length (Aq E2 T.nodes)
 ab:w.ownsRow 0 125 1 T.jv T.js.length (T.js.map λj=>K (O ⟨j.1,0,I⟩))
 az:w.ownsRow 0 30 4 T.cv T.vs.length (Aq V4.cells (T.vs.map ay.cap))
 box:∀j,j∈T.js->Ba w j.1 j.2
 ok:∀j,j∈T.js->Nb w T.bh j.2
 one:(T.js.map Prod.fst).Nodup
 two:T.js.Pairwise λx y=>∀b,x.2.pb=O b->y.2.pb≠O b
 dp:Sa w T.bh T.fb T.fm T.fl T.vs
 same:T.nodes.length=T.vs.length
variable {w w':WD} {T:Tv}
def Al.sj (h:Al w T) {j:Nat×aq} (e:j∈T.js) {b:Nat} (a:j.2.pb=O b):∃c,w.heap[b]?=O (J c 65 (0,0)):=by
 obtain⟨c,d,_⟩:=Cq (h.ok j e).parts a;exact⟨c,d⟩
def Al.nh (h:Al w T) {b:Nat} (c:T.bh b):b<w.heap.size:=by
 rcases c with rfl|rfl|e|e|⟨j,a,e|e⟩
 .exact Ac h.head
 .exact h.cls.lt
 .exact (P2 h.nodes b e).2
 .exact (P2 h.ab b e).2
 .exact e▸Ac (h.box j a)
 .exact (P2 (h.ok j a).parts b e).2
def Nb.mod {S S':Nat->Prop} {x:aq} (h:Nb w S x) (a:Mod S w w') (b:∀k,k<w.heap.size->S' k->S k) (c:Bo w' x):Nb w' S' x:=
 ⟨h.after.mod a b,h.oo,h.aj.mod a b,h.nf,c,h.user,h.part⟩
def Al.low (h:Al w T) (e:BW w.heap.size w w'):Al w' T:=by
 have a:Mod (λ_=>False) w w':=Mod.ag e;have b:Mod T.bh w w':=Mod.ag e
 exact⟨a.ar h.head (λc=>c),h.cls.mod a (λc=>c),A8 h.nodes a (λ_ _ c=>c),A8 h.ab a (λ_ _ c=>c),A8 h.az a (λ_ _ c=>c),
  λj d=>a.ar (h.box j d) (λc=>c),λj d=>(h.ok j d).mod b (λ_ _ c=>c) (A8 (h.ok j d).parts a (λ_ _ c=>c)),h.one,h.two,h.dp.mod b (λ_ c=>.inl c),h.same⟩
def F3 (j:Nat×aq) (b:Nat):Prop:=b=j.1\/j.2.pb=O b
def Tv.bu (T:Tv) (i:Nat) (j:Nat×aq):Tv:={ T with js:=T.js.set i j }
def Sb {i:Nat} {j x:Nat×aq} (d:T.js[i]?=O x) (c:j.1=x.1) {b:Nat} (h:(T.bu i j).bh b):T.bh b\/j.2.pb=O b:=by
 rcases h with e|e|e|e|⟨k,a,e⟩
 .exact .inl (.inl e)
 .exact .inl (.inr (.inl e))
 .exact .inl (.inr (.inr (.inl e)))
 .exact .inl (.inr (.inr (.inr (.inl e))))
 .rcases Vo a with a|rfl
  .exact .inl (.inr (.inr (.inr (.inr ⟨k,a,e⟩))))
  .rcases e with e|e
   .exact .inl (.inr (.inr (.inr (.inr ⟨x,Ai d,.inl (c.symm.trans e)⟩))))
   .exact .inr e
def Fj {α:Type} {R:α->α->Prop} {l:List α} (h:l.Pairwise R) {i k:Nat} {x y:α} (c:l[i]?=O x) (d:l[k]?=O y) (a:i<k):R x y:=by
 obtain⟨h1,rfl⟩:=Ap.1 c;obtain⟨b,rfl⟩:=Ap.1 d;exact Ot.1 h i k h1 b a
def Al.apart (h:Al w T) {i k:Nat} {x y:Nat×aq} (d:T.js[i]?=O x) (f:T.js[k]?=O y) (c:i≠k):x.1≠y.1/\∀b,x.2.pb=O b->y.2.pb≠O b:=by
 have h1:(T.js.map Prod.fst)[i]?=O x.1:=by simp[d]
 have j:(T.js.map Prod.fst)[k]?=O y.1:=by simp[f]
 rcases Rj c with a|a
 .exact ⟨λe=>Fj h.one h1 j a e,Fj h.two d f a⟩
 .exact ⟨λe=>Fj h.one j h1 a e.symm,λb l g=>Fj h.two f d a b g l⟩
def Al.bu (h:Al w T) {i:Nat} {x j:Nat×aq} (hx:T.js[i]?=O x) (hb:j.1=x.1) (hm:Mod (F3 x) w w') (al:Ba w' j.1 j.2) (hp:Bo w' j.2)
  (ad:∀b,j.2.pb=O b->x.2.pb=O b\/w.heap.size<=b)
  (ha:D1 w' (T.bu i j).bh j.2.so j.2.sn j.2.pl.sp.after) (aF:j.2.sn<=j.2.sc) (hg:D1 w' (T.bu i j).bh j.2.go j.2.gn j.2.pl.aj) (aH:j.2.gn<=j.2.gc)
  (hu:j.2.pl.sp.user.size<=maxLen) (aJ:j.2.pl.sp.part.size<=maxLen):Al w' (T.bu i j):=by
 have u:=Ai hx;have ap:=h.box x u;have hJ:∀b,F3 x b->T.bh b:=λb c=>.inr (.inr (.inr (.inr ⟨x,u,c.imp (λe=>e.symm) id⟩)));have am:=hm.mono λb _ c=>hJ b c
 have ao:∀k,k<w.heap.size->(T.bu i j).bh k->T.bh k:=λk d c=>by
  rcases Sb hx hb c with c|c
  .exact c
  .rcases ad k c with c|c
   .exact hJ k (.inr c)
   .omega
 have n1:∀(o:Obj) (k:Nat),w.heap[k]?=O o->(∀c fr,o≠J c 46 fr)->(∀c fr,o≠J c 65 fr)->¬F3 x k:=λo k d h1 h2 c=>by
  rcases c with rfl|c
  .rw [ap]at d;injection d with d;exact h1 _ _ d.symm
  .obtain ⟨c',g⟩:=h.sj u c;rw[g]at d;injection d with d;exact h2 _ _ d.symm
 have r:∀ {B size n:Nat} {Ty:TypeId} {v:VL} {xs:List VL},w.ownsRow B Ty size v n xs->Ty≠46->Ty≠65->∀k,v.ownBlock=O k->¬F3 x k:=λhr e1 e2 k d=>by
  obtain⟨aK,g,_⟩:=Cq hr d;exact n1 _ _ g (λc fr e=>by injection e with _ e;exact e1 e) (λc fr e=>by injection e with _ e;exact e2 e)
 obtain⟨es,cl,an⟩:=h.cls.ar
 have s:∀k y,T.js[k]?=O y->k≠i->Ba w' y.1 y.2/\Bo w' y.2:=λk y q d=>by
  have av:=h.apart q hx d;have z:=Ai q;refine⟨hm.ar (h.box y z) λc=>?_,A8 (h.ok y z).parts hm λb t c=>?_⟩
  .rcases c with c|c
   .exact av.1 c
   .obtain ⟨c',g⟩:=h.sj u c;have:=h.box y z;rw[Ba,g]at this;injection this with this;injection this with _ this;exact absurd this ad9
  .rcases c with rfl|c
   .obtain ⟨c',g⟩:=h.sj z t;rw[ap]at g;injection g with g;injection g with _ g;exact absurd g ad9
   .exact av.2 b t c
 have aC:∀y,y∈(T.bu i j).js->y=j\/∃k,T.js[k]?=O y/\k≠i:=λy q=>by
  obtain⟨k,d⟩:=Dk q;have f:(T.js.set i j)[k]?=O y:=d;rw[Do]at f;split at f
  .split at f
   .injection f with f;exact .inl f.symm
   .cases f
  .rename_i p;exact .inr ⟨k,f,λe=>p e.symm⟩
 refine⟨hm.ar h.head (n1 _ _ h.head (λc fr e=>by injection e with _ e;exact absurd e ad9) (λc fr e=>by injection e with _ e;exact absurd e ad9)),
  h.cls.mod hm (n1 _ _ an (λc fr e=>by cases e) (λc fr e=>by cases e)),A8 h.nodes hm (r h.nodes ad9 ad9),?_,A8 h.az hm (r h.az ad9 ad9),?_,?_,?_,?_,h.dp.mod am ?_,h.same⟩
 .have e:((T.bu i j).js.map λj=>Value.pointer (O ⟨j.1,0,I⟩))=T.js.map λj=>Value.pointer (O ⟨j.1,0,I⟩):=by
   show(T.js.set i j).map _=_;rw[Mz];apply Eg;intro k;rw[Do];split
   .rename_i ac;subst ac;obtain⟨hl,af⟩:=Ap.1 hx;simp[hl,af,hb]
   .rfl
  have e2:(T.bu i j).js.length=T.js.length:=Dl;rw[e,e2];exact A8 h.ab hm (r h.ab ad9 ad9)
 .intro y q;rcases aC y q with rfl|⟨k,d,p⟩
  .exact al
  .exact (s k y d p).1
 .intro y q;rcases aC y q with rfl|⟨k,d,p⟩
  .exact ⟨ha,aF,hg,aH,hp,hu,aJ⟩
  .exact (h.ok y (Ai d)).mod am ao (s k y d p).2
 .have e:(T.bu i j).js.map Prod.fst=T.js.map Prod.fst:=by
   show(T.js.set i j).map _=_;rw[Mz];apply Eg;intro k;rw[Do];split
   .rename_i ac;subst ac;obtain⟨hl,af⟩:=Ap.1 hx;simp[hl,af,hb]
   .rfl
  rw[e];exact h.one
 .show (T.js.set i j).Pairwise _
  have aB:∀k y,T.js[k]?=O y->k≠i->∀b,(y.2.pb=O b->j.2.pb≠O b):=λk y q d b aA aI=>by
   rcases ad b aI with c|c
   .exact (h.apart q hx d).2 b aA c
   .obtain ⟨c',g⟩:=h.sj (Ai q) aA;have:=Ac g;omega
  refine Ot.2 λa b aE t aG=>?_;have m:=Az aE;have l:=Az t;generalize (T.js.set i j)[a]=ya at m ⊢;generalize (T.js.set i j)[b]=yb at l ⊢;rw[Do]at m l;by_cases h1:i=a
  .subst h1;have h2:i≠b:=ao9;rw[Ab h2]at l;simp only[Ky]at m;split at m
   .injection m with m;subst m;exact λc h1 aD=>aB b yb l (λe=>h2 e.symm) c aD h1
   .cases m
  .rw [Ab h1]at m;by_cases h2:i=b
   .subst h2;simp only[Ky]at l;split at l
    .injection l with l;subst l;exact λc=>aB a ya m (λe=>h1 e.symm) c
    .cases l
   .rw [Ab h2]at l;exact Fj h.two m l aG
 .intro k c;rcases Sb hx hb c with c|c
  .exact .inl c
  .rcases ad k c with c|c
   .exact .inl (hJ k (.inr c))
   .exact .inr c
end
section
open Go.RowKit Go.Maps Go.Lib
def Aqb {w:WD} {b:Nat} {x:aq} (g:Ba w b x):CS prog 180 #[K (O ⟨b,0,I⟩)] w λe w'=>e=Q (Y x.pl.waits)/\w'=w:=by
 have y:=Bk g 14 (Z G x.pl.lf.st) rfl;obtain⟨s,f⟩:=Ex (x.pl.lf.st);have d:x.pl.waits=ei s:=by rw[f];rfl
 rw[<-f]at y;replace⟨g,f,d⟩:=H3 g f d;by_cases a:s=1
 .have h:=M5.2 a;have c:ei s=true:=by unfold ei;simp[a]
  replace⟨a,c⟩:=H2 a c;go_enter func180,ntmps180;go_wp2;go_ret;exact⟨by rw[d.out,c.out];rfl,rfl⟩
 .have h:=Bh.2 a;by_cases b:s=2
  .have i:=M5.2 b;have c:ei s=true:=(by unfold ei;simp[b]);replace⟨a,b,c⟩:=H3 a b c;go_enter func180,ntmps180;go_wp2;go_ret;exact⟨by rw[d.out,c.out];rfl,rfl⟩
  .have i:=Bh.2 b;have c:ei s=false:=(by unfold ei;simp[a,b]);replace⟨a,b,c⟩:=H3 a b c;go_enter func180,ntmps180;go_wp2;go_ret;exact⟨by rw[d.out,c.out];rfl,rfl⟩
abbrev Kb (b:Nat) (w w':WD):Prop:=Mod (λk=>k=b) w w'
def Xt {w:WD} {b:Nat} {x:aq} (c:Ba w b x):CS prog 138 #[K (O ⟨b,0,I⟩)] w λe w'=>e=Q (.tuple #[])/\Ba w' b x.bare/\Kb b w w':=by
 have g:∃v,w.cell? ⟨b,19,I⟩=O v:=⟨_,Aa c 19⟩;have h:∃v,w.cell? ⟨b,20,I⟩=O v:=⟨_,Aa c 20⟩;obtain⟨j,g⟩:=g;obtain⟨l,h⟩:=h;have i:=Ag c;have a:=Am (Am c 19 (Z G (-1))) 20 (V I 0 0);have d:Ba ((w.setCell ⟨b,19,I⟩ (Z G (-1))).setCell ⟨b,20,I⟩ (V I 0 0)) b x.bare:=by unfold Ba;rw[a];simp[aq.bare,Jb.bare]
 have f:Kb b w ((w.setCell ⟨b,19,I⟩ (Z G (-1))).setCell ⟨b,20,I⟩ (V I 0 0)):=((Mod.refl (λk=>k=b) w).set b 19 _ rfl).set b 20 _ rfl;replace⟨c,a,d,f⟩:=H4 c a d f;go_enter func138,ntmps138;go_wp2;go_end0;exact⟨rfl,d.out,f.out⟩
def Sl {w:WD} {b:Nat} {x:aq} (g:Ba w b x) (s:Int) (v:1<=s/\s<=8):CS prog 139 #[K (O ⟨b,0,I⟩),Z G s] w λe w'=>e=Q (.tuple #[])/\Ba w' b (x.bm (Ay x.pl.lf s).1)/\Kb b w w':=by
 obtain⟨l,t⟩:=Ex ((Ay x.pl.lf s).1);obtain⟨er,o⟩:=Ex ((Ay x.pl.lf s).2);have q:=Agb x.pl.lf s w v;rw[<-t,<-o]at q;rw[<-t];clear t o;obtain⟨⟨id,sp,⟨st,u,left,m,j⟩,start,aj,parts⟩,so,sn,sc,go_,gn,gc,po,pn,pc⟩:=x;obtain⟨p,i,c,f,d⟩:=l;have y:=Bk g 14 (Z G st) rfl;have z:=Bk g 15 (Z G u) rfl;have ac:=Bk g 16 (Z G left) rfl;have ad:=Bk g 17 (Y m) rfl;have af:=Bk g 18 (Y j) rfl;replace⟨q,g⟩:=H2 q g;go_enter func139,ntmps139;go_wp2_with fail;refine q.mono ?_;rintro e w1 ⟨rfl,h⟩;have a:=Ae h g.out (Ac g.out);have f1:=Ag a;have al:=Bk a 14 (Z G st) rfl;have am:=Bk a 15 (Z G u) rfl;have an:=Bk a 16 (Z G left) rfl;have ao:=Bk a 17 (Y m) rfl;have ap:=Bk a 18 (Y j) rfl;have n:=Am (Am (Am (Am (Am a 14 (Z G p)) 15 (Z G i)) 16 (Z G c)) 17 (Y f)) 18 (Y d)
 have r:Kb b w (((((w1.setCell ⟨b,14,I⟩ (Z G p)).setCell ⟨b,15,I⟩ (Z G i)).setCell ⟨b,16,I⟩ (Z G c)).setCell ⟨b,17,I⟩ (Y f)).setCell ⟨b,18,I⟩ (Y d)):=
  ((((((Mod.ag (S:=λk=>k=b) h).set b 14 _ rfl).set b 15 _ rfl).set b 16 _ rfl).set b 17 _ rfl).set b 18 _ rfl)
 replace⟨a,n,r,h⟩:=H4 a n r h;go_wp2;go_end0;refine⟨rfl,?_,r.out⟩;unfold Ba;rw[n.out];simp[aq.bm]
def Xu {a b:Bool} (h:a=b):Ending.returned (Y a)=Q (Y b):=by rw[h]
def Agc (b:Bool) (w:WD) (e:Ending) (w':WD):Prop:=∃r:Int,e=Q (Z G r)/\(0<=r↔b=true)/\BW w.heap.size w w'
def Aqc (F:FuncId) (z:Array VL) (p:Int->Bool) (so:Option Addr) (n c:Nat) (xs:List Int) (w:WD) (h:Ao w so n xs)
  (hF:∀args w,(callFunc F args).run prog w=.ok (.enter F args) w)
  (H:∀x,x∈xs->∀w1,BW w.heap.size w w1->CS prog F (#[Z G x]++z) w1 λe w2=>e=Q (Y (p x))/\BW w1.heap.size w1 w2) :
  CS prog 272 #[V so n c,.func (.func F) #[] z] w (Agc (xs.any p) w):=by
 have g:=h.len;have ac:=h.max;replace⟨h,g,H⟩:=H3 h g H;go_enter func272,ntmps272;go_wp2;go_loopw [5,8] (λ_ i wr=>∃k:Nat,i=Z G k/\k<=n/\Hid (∀j x,j<k->xs[j]?=O x->p x=false)/\Hid (BW w.heap.size w wr)) (λ_ i _=>n-(intOf i).toNat)
 case atStart=>exact⟨0,rfl,Ar _,(λj x h=>by omega),Below.refl _ _⟩
 case round=>
  obtain⟨k,rfl,hk,l,d⟩:=hrel;by_cases hc:k<n
  .have u:(k:Int)<n:=ao9;have ad:(0:Int)<=(k:Int):=ao9;obtain⟨y,r⟩:=h.get hc;obtain⟨b,af,rfl,hb,a0⟩:=(h.low d.out).cell k y r;have f:=H y (Ai r) wr d.out;replace⟨f,r⟩:=H2 f r;obtain⟨q,t⟩:=Ex (p y);go_wp2_with fail;refine f.mono ?_;rintro e w2 ⟨rfl,m⟩;have a:=d.trans (m.mono d.size);rw[<-t];replace⟨a,m,t⟩:=H3 a m t
   cases q with
   | true=>
    have o:=Ku.2 ⟨y,Ai r.out,t.symm⟩;replace o:=Hh o;go_wp2;go_ret;exact⟨k,rfl,⟨λ_=>o.out,λ_=>by omega⟩,a.out⟩
   | false=>
    have v:∀j x,j<k+1->xs[j]?=O x->p x=false:=λj x hj e=>by
     by_cases c:j=k
     .subst c;have:=r.out;rw[e]at this;injection this with this;rw[this];exact t.symm
     .exact l.out j x ao9 e
    replace v:=Hh v;go_wp2;go_roundw
    case rel=>exact⟨k+1,by go_num,ao9,v.out,a.out⟩
    case measure=>simp[intOf];omega
  .have u:¬(k:Int)<n:=ao9;have o:xs.any p=false:=(by rw[Jl];intro c;obtain⟨x,hx,s⟩:=Ku.1 c;obtain⟨j,hj,e⟩:=Pw.1 hx;have hl:=g.out;rw[l j x ao9 (by rw[Az hj,e])]at s;cases s);replace o:=Hh o;go_wp2;go_ret;exact⟨-1,rfl,⟨λh=>by omega,λh=>by rw[o.out]at h;cases h⟩,d.out⟩
def Agd (F:FuncId) (g:Array VL) (p:Int->Bool) (so:Option Addr) (n c:Nat) (xs:List Int) (w:WD) (h:Ao w so n xs)
  (hF:∀args w,(callFunc F args).run prog w=.ok (.enter F args) w)
  (H:∀x,x∈xs->∀w1,BW w.heap.size w w1->CS prog F (#[Z G x]++g) w1 λe j=>e=Q (Y (p x))/\BW w1.heap.size w1 j) :
  CS prog 231 #[V so n c,.func (.func F) #[] g] w λe w'=>e=Q (Y (xs.any p))/\BW w.heap.size w w':=by
 have f:=Aqc F g p so n c xs w h hF H;obtain⟨q,i⟩:=Ex (xs.any p);rw[<-i]at f;rw[<-i];clear i;replace⟨f,H,h⟩:=H3 f H h;go_enter func231,ntmps231;go_wp2_with fail;refine f.mono ?_;rintro e j ⟨r,rfl,b,a⟩
 cases q with
 | true=>
  have d:=b.2 rfl;replace⟨b,a⟩:=H2 b a;go_wp2;go_ret;exact⟨Xu as9,a.out⟩
 | false=>
  have d:¬(0:Int)<=r:=λh=>by cases b.1 h
  replace⟨b,a⟩:=H2 b a;go_wp2;go_ret;exact⟨Xu (by simpa using d),a.out⟩
structure Nj (w:WD) (so:Option Addr) (n:Nat) (xs:List (Int×Int)):Prop where
 len:xs.length=n
 max:n<=9223372036854775807
 cell:∀i x,xs[i]?=O x->∃b,so=O ⟨b,0,I⟩/\b<w.heap.size/\w.cell? ⟨b,i*2,I⟩=O (Z G x.1)/\w.cell? ⟨b,i*2+1,I⟩=O (Z G x.2)
def Nj.low {w w':WD} {so:Option Addr} {n:Nat} {xs:List (Int×Int)} (h:Nj w so n xs) (c:BW w.heap.size w w'):Nj w' so n xs:=
 ⟨h.len,h.max,λi x d=>by
  obtain⟨b,e,a,h0,h1⟩:=h.cell i x d
  exact⟨b,e,B4 a c.size,(Af c a).trans h0,(Af c a).trans h1⟩⟩
def Nj.get {w:WD} {so:Option Addr} {n:Nat} {xs:List (Int×Int)} (h:Nj w so n xs) {i:Nat} (a:i<n):=Ge xs i (by rw[h.len];exact a)
def Nj.vm {w:WD} {so:Option Addr} {n:Nat} {xs:List (Int×Int)} (h:Nj w so n xs) {i:Nat} {x:Int×Int} (a:xs[i]?=O x):∃b,so=O ⟨b,0,I⟩/\w.cell? ⟨b,i*2,I⟩=O (Z G x.1)/\w.cell? ⟨b,i*2+1,I⟩=O (Z G x.2):=by
 obtain⟨b,e,_,h0,h1⟩:=h.cell i x a;exact⟨b,e,h0,h1⟩
def Aqd (F:FuncId) (z:Array VL) (p:Int×Int->Bool) (so:Option Addr) (n c:Nat) (xs:List (Int×Int)) (w:WD) (h:Nj w so n xs)
  (hF:∀args w,(callFunc F args).run prog w=.ok (.enter F args) w)
  (H:∀x,x∈xs->∀w1,BW w.heap.size w w1->CS prog F (#[.agg #[Z G x.1,Z G x.2]]++z) w1 λe w2=>e=Q (Y (p x))/\BW w1.heap.size w1 w2) :
  CS prog 233 #[V so n c,.func (.func F) #[] z] w (Agc (xs.any p) w):=by
 have g:=h.len;have ac:=h.max;replace⟨h,g,H⟩:=H3 h g H;go_enter func233,ntmps233;go_wp2;go_loopw [5,8] (λ_ i wr=>∃k:Nat,i=Z G k/\k<=n/\Hid (∀j x,j<k->xs[j]?=O x->p x=false)/\Hid (BW w.heap.size w wr)) (λ_ i _=>n-(intOf i).toNat)
 case atStart=>exact⟨0,rfl,Ar _,(λj x h=>by omega),Below.refl _ _⟩
 case round=>
  obtain⟨k,rfl,hk,l,d⟩:=hrel;by_cases hc:k<n
  .have u:(k:Int)<n:=ao9;have ad:(0:Int)<=(k:Int):=ao9;obtain⟨y,r⟩:=h.get hc;obtain⟨b,rfl,a0,a1⟩:=(h.low d.out).vm r;have f:=H y (Ai r) wr d.out;replace⟨f,r⟩:=H2 f r;obtain⟨q,t⟩:=Ex (p y);go_wp2_with fail;refine f.mono ?_;rintro e w2 ⟨rfl,m⟩;have a:=d.trans (m.mono d.size);rw[<-t];replace⟨a,m,t⟩:=H3 a m t
   cases q with
   | true=>
    have o:=Ku.2 ⟨y,Ai r.out,t.symm⟩;replace o:=Hh o;go_wp2;go_ret;exact⟨k,rfl,⟨λ_=>o.out,λ_=>by omega⟩,a.out⟩
   | false=>
    have v:∀j x,j<k+1->xs[j]?=O x->p x=false:=λj x hj e=>by
     by_cases c:j=k
     .subst c;have:=r.out;rw[e]at this;injection this with this;rw[this];exact t.symm
     .exact l.out j x ao9 e
    replace v:=Hh v;go_wp2;go_roundw
    case rel=>exact⟨k+1,by go_num,ao9,v.out,a.out⟩
    case measure=>simp[intOf];omega
  .have u:¬(k:Int)<n:=ao9;have o:xs.any p=false:=(by rw[Jl];intro c;obtain⟨x,hx,s⟩:=Ku.1 c;obtain⟨j,hj,e⟩:=Pw.1 hx;have hl:=g.out;rw[l j x ao9 (by rw[Az hj,e])]at s;cases s);replace o:=Hh o;go_wp2;go_ret;exact⟨-1,rfl,⟨λh=>by omega,λh=>by rw[o.out]at h;cases h⟩,d.out⟩
def Aqe (F:FuncId) (g:Array VL) (p:Int×Int->Bool) (so:Option Addr) (n c:Nat) (xs:List (Int×Int)) (w:WD) (h:Nj w so n xs)
  (hF:∀args w,(callFunc F args).run prog w=.ok (.enter F args) w)
  (H:∀x,x∈xs->∀w1,BW w.heap.size w w1->CS prog F (#[.agg #[Z G x.1,Z G x.2]]++g) w1 λe j=>e=Q (Y (p x))/\BW w1.heap.size w1 j) :
  CS prog 182 #[V so n c,.func (.func F) #[] g] w λe w'=>e=Q (Y (xs.any p))/\BW w.heap.size w w':=by
 have f:=Aqd F g p so n c xs w h hF H;obtain⟨q,i⟩:=Ex (xs.any p);rw[<-i]at f;rw[<-i];clear i;replace⟨f,H,h⟩:=H3 f H h;go_enter func182,ntmps182;go_wp2_with fail;refine f.mono ?_;rintro e j ⟨r,rfl,b,a⟩
 cases q with
 | true=>
  have d:=b.2 rfl;replace⟨b,a⟩:=H2 b a;go_wp2;go_ret;exact⟨Xu as9,a.out⟩
 | false=>
  have d:¬(0:Int)<=r:=λh=>by cases b.1 h
  replace⟨b,a⟩:=H2 b a;go_wp2;go_ret;exact⟨Xu (by simpa using d),a.out⟩
def Al.jf {w:WD} {T:Tv} (h:Al w T) {k:Nat} {j:Nat×aq} (f:T.js[k]?=O j):∃g cap,w.cell? ⟨T.tb,4,I⟩=O (V (O ⟨g,0,I⟩) T.js.length cap)/\w.cell? ⟨g,k,I⟩=O (K (O ⟨j.1,0,I⟩))/\T.js.length<=cap/\T.jv=V (O ⟨g,0,I⟩) T.js.length cap:=by
 have n:=(Ap.1 f).1;obtain⟨g,cap,e⟩:=Joins.ownsRow_form h.ab ao9;have c:=h.ab;rw[e]at c;have l:=Fw c k ao9;refine⟨g,cap,?_,?_,?_,e⟩
 .rw [Aa h.head 4,<-e];rfl
 .rw [l];simp[f]
 .rcases c.2 with⟨a,_⟩|⟨m,d,i,a,_,_,b,_⟩
  .simp at a
  .simp at a;rw[a.2];exact b
def Aqf:∀args w,(callFunc 232 args).run prog w=.ok (.enter 232 args) w:=Iy func232 ad9 (by simp[f232])
def Xv (s:Int):Bool:=jz s && decide (s≠5)
def Age {T:Tv} {k:Nat} {j:Nat×aq} (a:T.js[k]?=O j):Ly T.pl.ab ((k:Int)+1)=j.2.pl.lf.st:=by
 unfold Ly Tv.pl;have e:((k:Int)+1-1).toNat=k:=ao9
 rw[e];simp[a]
def Aqg {w:WD} {T:Tv} (h:Al w T) (r:Nat) (l:w.cell? ⟨r,0,I⟩=O (K (O ⟨T.tb,0,I⟩))) (k:Nat) (v:k<T.js.length) :
  CS prog 232 (#[Z G ((k:Int)+1)]++#[K (O ⟨r,0,I⟩)]) w λe w'=>e=Q (Y (Xv (Ly T.pl.ab ((k:Int)+1))))/\w'=w:=by
 obtain⟨j,i⟩:=Ge T.js k v;rw[Age i];obtain⟨g,cap,t,cj,al,_⟩:=h.jf i;obtain⟨tb,z⟩:=Ex (T.tb);obtain⟨jb,b⟩:=Ex (j.1);obtain⟨m,x⟩:=Ex (T.js.length);obtain⟨s,p⟩:=Ex (j.2.pl.lf.st);have cs:w.cell? ⟨j.1,14,I⟩=O (Z G j.2.pl.lf.st):=Aa (h.box j (Ai i)) 14
 have y:m<=9223372036854775807:=by
  rcases h.ab.2 with⟨_,e2⟩|⟨g',u,ac,e2,_,_,h1,h2,_⟩
  .omega
  .unfold maxLen at h2;omega
 rw[<-b,<-p]at cs;rw[<-z]at t l;rw[<-x]at t v;rw[<-b]at cj;rw[<-p];have af:(k:Int)<m:=ao9
 have ad:(0:Int)<=(k:Int):=ao9
 have f:=Aa7 s w;obtain⟨o,n⟩:=Ex (jz s);have c:Xv s=(o && decide (s≠5)):=by rw[n];rfl
 rw[<-n]at f;clear z b x p n h i;replace⟨f,c⟩:=H2 f c;go_enter func232,ntmps232;go_wp2_with fail;refine(f.out).mono ?_;rintro e w' ⟨rfl,rfl⟩
 cases o with
 | false=>
  go_wp2;go_ret;exact⟨by rw[c.out];rfl,rfl⟩
 | true=>
  by_cases q:s=5
  .have d:(s != (5:Int))=false:=(by rw[q];rfl);have a:decide (s≠5)=false:=(by simp[q]);rw[a]at c;replace⟨q,a⟩:=H2 q a;go_wp2;go_ret;exact⟨by rw[c.out];rfl,rfl⟩
  .have d:(s != (5:Int))=true:=(by rw[Gf];exact q);have a:decide (s≠5)=true:=(by simp[q]);rw[a]at c;replace⟨q,a⟩:=H2 q a;go_wp2;go_ret;exact⟨by rw[c.out];rfl,rfl⟩
def Aqh {w:WD} {T:Tv} (h:Al w T) {i:Nat} {j:Nat×aq} (hj:T.js[i]?=O j) (hr:∀id,id∈j.2.pl.sp.after->1<=id/\id<=(T.js.length:Int)) :
  CS prog 181 #[K (O ⟨T.tb,0,I⟩),K (O ⟨j.1,0,I⟩)] w λe w'=>e=Q (Y (O6 T.pl.ab j.2.pl))/\BW w.heap.size w w':=by
 have d:=Ai hj;have cs:=Bk (h.box j d) 13 (V j.2.so j.2.sn j.2.sc) rfl;have z:=(h.ok j d).after.row;obtain⟨u,b⟩:=Ex (w.alloc (J #[K (O ⟨T.tb,0,I⟩)] 27 (0,0)));have a:BW w.heap.size w u:=by rw[b];exact Bn
 have s:u.cell? ⟨w.heap.size,0,I⟩=O (K (O ⟨T.tb,0,I⟩)):=by rw[b];exact Aa (Ah _ _) 0
 have n:w.heap.size<u.heap.size:=by rw[b];simp
 have f:=(Af a (Ac (h.box j d))).trans cs
 have g:=Agd 232 #[K (O ⟨w.heap.size,0,I⟩)] (λid=>Xv (Ly T.pl.ab id)) j.2.so j.2.sn j.2.sc j.2.pl.sp.after u (z.low a) Aqf (λid x w1 m=>by
  obtain⟨h1,h2⟩:=hr id x;obtain⟨k,rfl⟩:∃k:Nat,id=(k:Int)+1:=⟨(id-1).toNat,ao9⟩
  exact(Aqg ((h.low a).low m) w.heap.size ((Af m n).trans s) k ao9).mono λe w' ⟨he,hw⟩=>⟨he,by rw[hw];exact Below.refl _ _⟩)
 have hz:O6 T.pl.ab j.2.pl=(j.2.pl.sp.after.any λid=>Xv (Ly T.pl.ab id)):=rfl;rw[<-hz]at g;obtain⟨q,y⟩:=Ex (O6 T.pl.ab j.2.pl);rw[<-y]at g;rw[<-y];obtain⟨tb,t⟩:=Ex (T.tb);obtain⟨jb,l⟩:=Ex (j.1);obtain⟨so,r⟩:=Ex (j.2.so);obtain⟨sn,p⟩:=Ex (j.2.sn);obtain⟨sc,o⟩:=Ex (j.2.sc);rw[<-r,<-p,<-o]at g f;rw[<-l]at f;rw[b,<-t]at g;rw[b,<-t]at a f;rw[<-t,<-l];clear y hz z cs s n b r p o l t h hj hr d;replace⟨g,a⟩:=H2 g a;go_enter func181,ntmps181;go_wp2_with fail;refine(g.out).mono ?_;rintro e w' ⟨rfl,v⟩;have c:=a.trans (v.mono a.size);replace⟨c,v⟩:=H2 c v;go_wp2;go_ret;exact⟨rfl,c.out⟩
structure Gy (x y:aq):Prop where
 so:y.so=x.so
 sn:y.sn=x.sn
 sc:y.sc=x.sc
 after:y.pl.sp.after=x.pl.sp.after
 user:y.pl.sp.user=x.pl.sp.user
 part:y.pl.sp.part=x.pl.sp.part
 aj:(y.go=x.go/\y.gn=x.gn/\y.gc=x.gc/\y.pl.aj=x.pl.aj)\/(y.go=I/\y.gn=0/\y.pl.aj=[])
 pb:∀b,y.pb=O b->x.pb=O b
def Gy.refl (x:aq):Gy x x:=⟨rfl,rfl,rfl,rfl,rfl,rfl,.inl ⟨rfl,rfl,rfl,rfl⟩,λ_ h=>h⟩
def Gy.trans {x y z:aq} (h:Gy x y) (k:Gy y z):Gy x z:=
 ⟨k.so.trans h.so,k.sn.trans h.sn,k.sc.trans h.sc,k.after.trans h.after,k.user.trans h.user,k.part.trans h.part,by
  rcases k.aj with⟨a,b,c,d⟩|c
  .rcases h.aj with⟨f,g,j,i⟩|⟨f,g,i⟩
   .exact .inl ⟨a.trans f,b.trans g,c.trans j,d.trans i⟩
   .exact .inr ⟨a.trans f,b.trans g,d.trans i⟩
  .exact .inr c,λb e=>h.pb b (k.pb b e)⟩
def Xw (x:aq) (l:Lf):Gy x (x.bm l):=⟨rfl,rfl,rfl,rfl,rfl,rfl,.inl ⟨rfl,rfl,rfl,rfl⟩,λ_ h=>h⟩
def Xx (x:aq):Gy x x.bare:=⟨rfl,rfl,rfl,rfl,rfl,rfl,.inr ⟨rfl,rfl,rfl⟩,λ_ h=>h⟩
variable {w w' wr:WD} {T:Tv}
def Al.dj (h:Al w T) {i b:Nat} {x y:aq} (n:T.js[i]?=O (b,x)) (q:Mod (F3 (b,x)) w w') (l:Ba w' b y) (s:Bo w' y) (d:Gy x y):Al w' (T.bu i (b,y)):=by
 have a:=h.ok _ (Ai n)
 have f:∀k,k<w.heap.size->(T.bu i (b,y)).bh k->T.bh k:=λk _ c=>by
  rcases Sb (j:=(b,y)) n rfl c with c|c
  .exact c
  .exact .inr (.inr (.inr (.inr ⟨_,Ai n,.inr (d.pb k c)⟩)))
 have m:Mod T.bh w w':=q.mono λk _ c=>.inr (.inr (.inr (.inr ⟨_,Ai n,c.imp (λe=>e.symm) id⟩)));refine h.bu n rfl q l s (λk c=>.inl (d.pb k c)) ?_ ?_ ?_ ?_ ?_ ?_
 .have:=a.after.mod m f;show D1 w' _ y.so y.sn y.pl.sp.after;rw[d.so,d.sn,d.after];exact this
 .show y.sn<=y.sc;rw[d.sn,d.sc];exact a.oo
 .show D1 w' _ y.go y.gn y.pl.aj;rcases d.aj with⟨o,g,_,p⟩|⟨o,g,p⟩
  .rw [o,g,p];exact a.aj.mod m f
  .rw [o,g,p];exact Afd _ _
 .show y.gn<=y.gc;rcases d.aj with⟨_,g,r,_⟩|⟨_,g,_⟩
  .rw [g,r];exact a.nf
  .rw [g];exact Ar _
 .show y.pl.sp.user.size<=maxLen;rw[d.user];exact a.user
 .show y.pl.sp.part.size<=maxLen;rw[d.part];exact a.part
structure Bp (w:WD) (T:Tv) (js:List (Nat×aq)) (wr:WD):Prop where
 at_:Al wr { T with js:=js }
 ar:js.map Prod.fst=T.js.map Prod.fst
 bh:∀b,({ T with js:=js }:Tv).bh b->T.bh b\/w.heap.size<=b
 mod:Mod T.bh w wr
 kp:∀(i:Nat) (x y:Nat×aq),T.js[i]?=O x->js[i]?=O y->Gy x.2 y.2
def Bp.refl (h:Al w T):Bp w T T.js w:=⟨h,rfl,λ_ c=>.inl c,Mod.refl _ _,λi x y b a=>by rw[b]at a;injection a with a;rw[a];exact Gy.refl _⟩
def Bp.low {js:List (Nat×aq)} (h:Bp w T js wr) (a:BW wr.heap.size wr w'):Bp w T js w':=⟨h.at_.low a,h.ar,h.bh,h.mod.low a,h.kp⟩
def Bp.len {js:List (Nat×aq)} (h:Bp w T js wr):js.length=T.js.length:=by
 have:=Ca List.length h.ar;simpa using this
def Bp.then {js d:List (Nat×aq)} (h:Bp w T js wr) (a:Bp wr { T with js:=js } d w'):Bp w T d w':=
 ⟨a.at_,a.ar.trans h.ar,λb c=>by
  rcases a.bh b c with c|c
  .exact h.bh b c
  .exact .inr (Aw h.mod.size c),h.mod.then a.mod λk l c=>by
  rcases h.bh k c with c|c
  .exact c
  .omega,λi x z e j=>by
  have g:i<js.length:=by rw[h.len];exact(Ap.1 e).1
  have f:=Az g
  exact(h.kp i x _ e f).trans (a.kp i _ z f j)⟩
def Aqi {js:List (Nat×aq)} {i b:Nat} {x y:aq} (e:js[i]?=O (b,x)):(js.set i (b,y)).map Prod.fst=js.map Prod.fst:=by
 rw[Mz];apply Eg;intro k;rw[Do];split
 .rename_i a;subst a;obtain⟨d,c⟩:=Ap.1 e;simp[d,c]
 .rfl
def Bp.dj {js:List (Nat×aq)} (h:Bp w T js wr) {i b:Nat} {x y:aq} (f:js[i]?=O (b,x)) (m:Mod (F3 (b,x)) wr w') (d:Ba w' b y) (p:Bo w' y) (g:Gy x y):Bp w T (js.set i (b,y)) w':=by
 have l:∀k,F3 (b,x) k->({ T with js:=js }:Tv).bh k:=λk c=>.inr (.inr (.inr (.inr ⟨_,Ai f,c.imp (λe=>e.symm) id⟩)));refine⟨h.at_.dj (T:={ T with js:=js }) f m d p g,(Aqi f).trans h.ar,λk c=>?_,h.mod.then m λk o c=>?_,λk z q n a=>?_⟩
 .rcases Sb (T:={ T with js:=js }) (j:=(b,y)) f rfl c with c|c
  .exact h.bh k c
  .exact h.bh k (l k (.inr (g.pb k c)))
 .rcases h.bh k (l k c)with c|c
  .exact c
  .omega
 .rw [Do]at a;split at a
  .rename_i e;subst e;split at a
   .injection a with a;subst a;exact(h.kp i z _ n f).trans g
   .cases a
  .exact h.kp k z q n a
def Um {b:Nat} {x:aq} (d:Ba w b x) (a:Bo w x) (f:Mod (λk=>k=b) w w'):Bo w' x:=
 A8 a f λk e c=>by
  subst c;exact Bx a d ad9 e
def Pa {b:Nat} {x:aq} (h:Mod (λk=>k=b) w w'):Mod (F3 (b,x)) w w':=h.mono λ_ _ c=>.inl c
def Bp.get {js:List (Nat×aq)} (h:Bp w T js wr) {i:Nat} {j:Nat×aq} (a:js[i]?=O j):Ba wr j.1 j.2/\Nb wr ({ T with js:=js }:Tv).bh j.2:=⟨h.at_.box j (Ai a),h.at_.ok j (Ai a)⟩
def Bp.uf {js:List (Nat×aq)} (h:Bp w T js wr) {i b:Nat} {x y:aq} (e:js[i]?=O (b,x)) (d:Mod (λk=>k=b) wr w') (a:Ba w' b y) (n:Gy x y) (c:y.po=x.po/\y.pn=x.pn/\y.pc=x.pc/\y.pl.parts=x.pl.parts):Bp w T (js.set i (b,y)) w':=by
 obtain⟨h1,m⟩:=h.get e;refine h.dj e (Pa d) a ?_ n;have:=Um h1 m.parts d;obtain⟨f,g,j,l⟩:=c;unfold Bo at *;rw[f,g,j,l];exact this
def Al.off (h:Al w T) {b:Nat} {c:Array VL} {a:TypeId} (d:w.heap[b]?=O (J c a (0,0))) (h1:a≠115) (i:a≠119) (k:a≠125) (l:a≠46) (m:a≠65):¬T.bh b:=λc=>by
 rcases c with e|e|e|e|⟨j,g,e|e⟩
 .have:=h.head;rw[<-e,d]at this;injection this with this;injection this with _ this;exact h1 this
 .obtain ⟨o,n,f⟩:=h.cls.ar;rw[<-e,d]at f;injection f with f;cases f
 .exact Bx h.nodes d i.symm e
 .exact Bx h.ab d k.symm e
 .have:=h.box j g;rw[Ba,e,d]at this;injection this with this;injection this with _ this;exact l this
 .exact Bx (h.ok j g).parts d m.symm e
def D1.other {S:Nat->Prop} {so:Option Addr} {n b:Nat} {l:List Int} (h:D1 w S so n l) (d:Mod (λk=>k=b) w w') (j:0<n->∀k o,so=O ⟨k,o,I⟩->k≠b):D1 w' S so n l:=
 ⟨⟨h.row.len,h.row.max,λi x f=>by
  obtain⟨k,c,e,a,g⟩:=h.row.cell i x f;have m:=(Ap.1 f).1;refine⟨k,c,e,B4 a d.size,?_⟩;rw[<-g]
  simp only[World.cell?,d.block k a (j (by have:=h.row.len;omega) k c e)]⟩,h.off⟩
def Al.el (h:Al w T) {b:Nat} {c:Array VL} {d:TypeId} (p:w.heap[b]?=O (J c d (0,0))) (a:Mod (λk=>k=b) w w') (y:T.tb<b) (h1:d≠115) (r:d≠119) (s:d≠125) (t:d≠46) (u:d≠65) (v:d≠30)
  (f:∀j,j∈T.js->(0<j.2.sn->∀k o,j.2.so=O ⟨k,o,I⟩->k≠b)/\(0<j.2.gn->∀k o,j.2.go=O ⟨k,o,I⟩->k≠b)):Al w' T:=by
 have x:=h.off p h1 r s t u;have i:∀k,T.bh k->k≠b:=λk c e=>x (e▸c)
 refine⟨a.ar h.head (i _ (.inl rfl)),h.cls.mod a (i _ (.inr (.inl rfl))),A8 h.nodes a (λk e=>i k (.inr (.inr (.inl e)))),A8 h.ab a (λk e=>i k (.inr (.inr (.inr (.inl e))))),
  A8 h.az a (λk e c=>?_),λj l=>a.ar (h.box j l) (i _ (.inr (.inr (.inr (.inr ⟨j,l,.inl rfl⟩))))),λj l=>?_,h.one,h.two,?_,h.same⟩
 .subst c;exact Bx h.az p v.symm e
 .have g:=h.ok j l;obtain⟨z,n2⟩:=f j l;exact⟨g.after.other a z,g.oo,g.aj.other a n2,g.nf,A8 g.parts a (λk e=>i k (.inr (.inr (.inr (.inr ⟨j,l,.inr e⟩))))),g.user,g.part⟩
 .obtain ⟨w0,q,m,n⟩:=h.dp.ex;have:=n _ (.inl rfl);exact⟨⟨w0,q,m.trans (a.below m.size λk e=>by omega),n⟩,h.dp.ok⟩
def La {so:Option Addr} {n k o:Nat} {l:List Int} (h:Ao w so n l) (h0:0<n) (e:so=O ⟨k,o,I⟩):k<w.heap.size:=by
 obtain⟨x,c⟩:=h.get (i:=0) h0;obtain⟨d,b,e',a,_⟩:=h.cell 0 x c;rw[e]at e';cases e';exact a
def Bp.el {js:List (Nat×aq)} (h:Bp w T js wr) (h0:Al w T) {b:Nat} {c:Array VL} {a:TypeId} (y:wr.heap[b]?=O (J c a (0,0))) (p:Mod (λk=>k=b) wr w') (g:w.heap.size<=b) (h1:a≠115) (s:a≠119) (t:a≠125) (u:a≠46) (v:a≠65) (x:a≠30):Bp w T js w':=by
 refine⟨h.at_.el y p (B4 (Ac h0.head) g) h1 s t u v x λj z=>?_,h.ar,h.bh,h.mod.then p (λk f e=>by omega),h.kp⟩;obtain⟨i,n⟩:=Dk z;have hl:i<T.js.length:=by rw[<-h.len];exact(Ap.1 n).1
 have r:=Az hl;have f:=h.kp i _ j r n;have q:=h0.ok _ (Ai r);refine⟨λd k o e=>?_,λd k o e=>?_⟩
 .rw [f.sn]at d;rw[f.so]at e;have:=La q.after.row d e;omega
 .rcases f.aj with⟨l,m,_⟩|⟨l,m,_⟩
  .rw [m]at d;rw[l]at e;have:=La q.aj.row d e;omega
  .omega
def Nk (js:List (Nat×aq)) {i b:Nat} {x y:aq} (d:js[i]?=O (b,x)) {f:Jb->Jb} (g:y.pl=f x.pl):(js.set i (b,y)).map (λj=>j.2.pl)=(js.map λj=>j.2.pl).modify i f:=by
 apply Eg;intro k;rw[Fc];by_cases e:i=k
 .subst e;obtain⟨c,a⟩:=Ap.1 d;simp[c,a,g]
 .simp [e]
end
section
open Go.RowKit Go.Maps Go.Lib
def Al.mr {w:WD} {T:Tv} (h:Al w T):∃so cap,T.jv=V so T.js.length cap/\T.js.length<=cap/\T.js.length<=9223372036854775807/\∀k j,T.js[k]?=O j->∃g,so=O ⟨g,0,I⟩/\w.cell? ⟨g,k,I⟩=O (K (O ⟨j.1,0,I⟩)):=by
 rcases h.ab.2 with⟨e,h0⟩|⟨g,cap,f,e,_,_,h1,i,_⟩
 .refine ⟨I,0,by rw[e,h0],ao9,ao9,λk j b=>?_⟩;have:=(Ap.1 b).1;omega
 .refine ⟨O ⟨g,0,I⟩,cap,e,h1,by unfold maxLen at i;omega,λk j b=>?_⟩;obtain⟨l,c,_,d,_,a⟩:=h.jf b;rw[e]at a;simp at a;exact⟨g,rfl,by rw[a.1];exact d⟩
def Abb (w:WD) (bs:List Nat):Nat:=bs.countP λb=>match w.cell? ⟨b,14,I⟩with
 | some (Z _ s)=>ei s
 | _=>false
def Agi {w:WD} {T:Tv} (h:Al w T):Abb w (T.js.map Prod.fst)=Kh T.pl.ab:=by
 unfold Abb Kh Tv.pl;simp only;rw[List.countP_map,List.countP_map];apply List.countP_congr;intro j b;have a:=Bk (h.box j b) 14 (Z G j.2.pl.lf.st) rfl;simp[a,Jb.waits]
def Agj (js:List Jb) (k:Nat):(Gi js k).map Jb.sp=js.map Jb.sp:=by
 unfold Gi;split
 .apply Eg;intro i;simp only[Bm,Fc]
  cases js[i]? with
  | none=>rfl
  | some j=>
   simp only[J8]
   split<;>rfl
 .rfl
def D3 (js:List Jb):Prop:=∀j,j∈js->∀id,id∈j.sp.after->1<=id/\id<=(js.length:Int)
def Qo {js a:List Jb} (h:D3 js) (e:a.map Jb.sp=js.map Jb.sp):D3 a:=λj f id b=>by
 have g:a.length=js.length:=by have:=Ca List.length e;simpa using this
 have:j.sp∈js.map Jb.sp:=e▸It f;obtain⟨i,d,c⟩:=A7.1 this;rw[g];exact h i d id (by rw[c];exact b)
def Ki (w:WD) (T:Tv) (X:List Jb) (e:Ending) (w':WD):Prop:=e=Q (.tuple #[])/\∃js,Bp w T js w'/\js.map (λj=>j.2.pl)=X
structure jl (w:WD) (T:Tv) (js:List (Nat×aq)) (X:List Jb) (wr:WD):Prop where
 tab:Bp w T js wr
 pl:js.map (λj=>j.2.pl)=X
 jq:D3 X
def jl.low {w:WD} {T:Tv} {js:List (Nat×aq)} {X:List Jb} {wr w':WD} (h:jl w T js X wr) (a:BW wr.heap.size wr w'):jl w T js X w':=⟨h.tab.low a,h.pl,h.jq⟩
def Abc (v:VL):Nat:=match v with
 | Y true=>1
 | _=>0
def X3 {w:WD} {T:Tv} (h:Al w T) (ha:D3 T.pl.ab):CS prog 130 #[K (O ⟨T.tb,0,I⟩)] w (Ki w T (Co T.pl.ab)):=by
 obtain⟨so,cap,ad,aU,aO,_⟩:=h.mr;obtain⟨tb,ht⟩:=Ex (T.tb);obtain⟨m,hm⟩:=Ex (T.js.length);obtain⟨X0,x⟩:=Ex (T.pl.ab);have ao:jl w T T.js X0 w:=⟨Bp.refl h,x.symm,by rw[x];exact ha⟩
 have z:∀(js:List (Nat×aq)) (X:List Jb) (W:WD),jl w T js X W->W.cell? ⟨tb,4,I⟩=O (V so m cap):=λjs X W hW=>by
  rw[ht,Aa hW.tab.at_.head 4,hm,<-ad];rfl
 have row:∀(js:List (Nat×aq)) (X:List Jb) (W:WD),jl w T js X W->∀k,k<m->∃g j,so=O ⟨g,0,I⟩/\js[k]?=O j/\W.cell? ⟨g,k,I⟩=O (K (O ⟨j.1,0,I⟩)):=λjs X W hW k hk=>by
  have hl:js.length=m:=by rw[hm];exact hW.tab.len
  obtain⟨j,hj⟩:=Ge js k ao9;obtain⟨aS,aM,e1,_,_,hr⟩:=hW.tab.at_.mr;obtain⟨g,e2,hc⟩:=hr k j hj;have e3:T.jv=V aS js.length aM:=e1;rw[ad]at e3;injection e3 with e3 _ _;exact⟨g,j,e3.trans e2,hj,hc⟩
 rw[hm.symm]at aO;rw[<-ht,<-x];replace⟨h,ha,ad,x,ao,z,row,hm⟩:=H8 h ha ad x ao z row hm;replace ht:=Hh ht;go_enter func130,ntmps130;go_wp2;go_loopw [2,4,12] (λmv _ _ wr=>∃(mb:Bool) (js:List (Nat×aq)) (X:List Jb),mv=Y mb/\Hid (jl w T js X wr)/\Hid (Co X0=if mb=true then Co X else X)) (λmv _ _ wr=>Abb wr (T.js.map Prod.fst)+Abc mv)
 case atStart=>exact⟨true,T.js,X0,rfl,ao.out,rfl⟩
 case round=>
  rename WD=>wo
  obtain⟨mb,js,X,rfl,u,hF⟩:=hrel
  cases mb with
  | false=>
   have am:Co X0=X:=hF.out;replace am:=Hh am;go_wp2;go_end0;exact⟨rfl,js,u.tab,u.pl.trans am.symm⟩
  | true=>
   have c4:=z _ _ _ u.out;have ac:jl w T js (Ck X 0).1 wo:=u.out;replace ac:=Hh ac;go_wp2;clear c4;go_loopw [2,4,12] (λmv _ i wr=>∃(k:Nat) (a:List (Nat×aq)),i=Z G k/\k<=m/\mv=Y (Ck X k).2/\Hid (jl w T a (Ck X k).1 wr)) (λ_ _ i _=>m-(intOf i).toNat)
   case atStart=>exact⟨0,js,rfl,Ar _,rfl,ac.out⟩
   case round=>
    obtain⟨k,a,rfl,hk,rfl,hE⟩:=hrel;by_cases hc:k<m
    .have aQ:(k:Int)<m:=ao9;have aT:(0:Int)<=(k:Int):=ao9;obtain⟨g,j,rfl,hj,cr⟩:=row _ _ _ hE.out k hc;obtain⟨jb,jx⟩:=j;obtain⟨Y9q,hY⟩:=Ex ((Ck X k).1);obtain⟨q0,af⟩:=Ex ((Ck X k).2);have c:=hE.out;rw[<-hY]at c;obtain⟨aE,aP⟩:=c.tab.get hj;have o:=Aqb aE;have aA:Y9q[k]?=O jx.pl:=by rw[<-c.pl];simp[hj]
     have s:=Aqh (T:={ T with js:=a }) c.tab.at_ hj (λid aR=>by
      have:=c.jq jx.pl (Ai aA) id aR;have e:Y9q.length=a.length:=(by rw[<-c.pl];simp);rw[e]at this
      exact this)
     have aN:({ T with js:=a }:Tv).pl.ab=Y9q:=c.pl;rw[aN]at s;have d:F1 Y9q k=(jx.pl.waits && O6 Y9q jx.pl):=by unfold F1;rw[aA]
     have l:∀b,F1 Y9q k=b->(Ck X (k+1))=(Gi Y9q k,q0 || b):=λb q=>by
      show(Gi (Ck X k).1 k,(Ck X k).2 || F1 (Ck X k).1 k)=_;rw[<-hY,<-af,q]
     obtain⟨qw,aL⟩:=Ex (jx.pl.waits);obtain⟨ql,aK⟩:=Ex (O6 Y9q jx.pl);rw[<-aL]at o d;rw[<-aK]at s d;have mv:=λ(W:WD) (hW:Ba W jb jx)=>Sl hW 7 ao9;rw[show({ T with js:=a }:Tv).tb=tb from ht.symm]at s;rw[<-af];clear aA aN;replace⟨hE,c,hj,aE,aP,o,s,d⟩:=H8 hE c hj aE aP o s d;replace⟨l,aL,aK,mv,hY,af,hF,u⟩:=H8 l aL aK mv hY af hF u;replace ac:=Hh ac;go_wp2_with fail;refine o.mono ?_;rintro e w1 ⟨rfl,rfl⟩
     cases qw with
     | false=>
      have q:F1 Y9q k=false:=(by rw[d.out];rfl);have h1:=l false q;have v:jl w T a (Ck X (k+1)).1 w1:=(by rw[h1,Xy q];exact c.out);have hq:(Ck X (k+1)).2=q0:=(by rw[h1];simp);replace⟨q,h1,v,hq⟩:=H4 q h1 v hq;go_wp2;go_roundw
      case rel=>exact⟨k+1,a,by go_num,ao9,by rw[hq.out],v.out⟩
      case measure=>simp[intOf];omega
     | true=>
      go_wp2_with fail;refine s.mono ?_;rintro e w2 ⟨rfl,y⟩;have n:=c.low y;have p:=(n.tab.get hj.out).1
      cases ql with
      | false=>
       have q:F1 Y9q k=false:=(by rw[d.out];rfl);have h1:=l false q;have v:jl w T a (Ck X (k+1)).1 w2:=(by rw[h1,Xy q];exact n);have hq:(Ck X (k+1)).2=q0:=(by rw[h1];simp);replace⟨q,h1,v,hq,y,n,p⟩:=H7 q h1 v hq y n p;go_wp2;go_roundw
       case rel=>exact⟨k+1,a,by go_num,ao9,by rw[hq.out],v.out⟩
       case measure=>simp[intOf];omega
      | true=>
       have q:F1 Y9q k=true:=(by rw[d.out];rfl);have h1:=l true q;have aI:=mv _ p;replace⟨q,h1,y,n,p,aI⟩:=H6 q h1 y n p aI;go_wp2_with fail;refine aI.mono ?_;rintro e w3 ⟨rfl,aB,aF⟩;have aD:=Xt aB;replace⟨aB,aF,aD⟩:=H3 aB aF aD;go_wp2_with fail;refine aD.mono ?_;rintro e w4 ⟨rfl,aC,aG⟩
       have ap:=
        n.tab.uf hj.out (aF.trans aG) aC ((Xw _ _).trans (Xx _)) ⟨rfl,rfl,rfl,rfl⟩
       have aJ:(a.set k (jb,(jx.bm (Ay jx.pl.lf 7).1).bare)).map (λj=>j.2.pl)=Gi Y9q k:=(by rw[Nk a hj.out (f:=λj=>(j.move 7).bare) rfl,n.pl];unfold Gi;rw[Ad q.out]);have v:jl w T (a.set k (jb,(jx.bm (Ay jx.pl.lf 7).1).bare)) (Ck X (k+1)).1 w4:=(by rw[h1.out];exact⟨ap,aJ,Qo n.jq (Agj _ _)⟩);have hq:(Ck X (k+1)).2=true:=(by rw[h1.out];simp);replace⟨aC,aG,ap,aJ,v,hq⟩:=H6 aC aG ap aJ v hq;go_wp2;go_roundw
       case rel=>exact⟨k+1,_,by go_num,ao9,by rw[hq.out],v.out⟩
       case measure=>simp[intOf];omega
    .have aQ:¬(k:Int)<m:=ao9;have aH:k=m:=ao9
     have av:X.length=m:=by
      have:=u.tab.len;have e:X.length=js.length:=(by rw[<-u.pl];simp);rw[e,this,hm.out]
     have e1:Ck X k=Cc X:=(by unfold Cc;rw[av,aH]);rw[e1]at hE;rw[e1];have o:=Agi u.tab.at_;have al:=Agi hE.tab.at_;have b1:({ T with js:=js }:Tv).js.map Prod.fst=T.js.map Prod.fst:=u.tab.ar;have b2:({ T with js:=a }:Tv).js.map Prod.fst=T.js.map Prod.fst:=hE.tab.ar;rw[b1,show({ T with js:=js }:Tv).pl.ab=X from u.pl]at o;rw[b2,show({ T with js:=a }:Tv).pl.ab=(Cc X).1 from hE.pl]at al;have an:Co X0=Co X:=hF.out;have r:=Aqp X;obtain⟨qp,t⟩:=Ex ((Cc X).2);rw[<-t]at r ⊢;replace⟨o,al,an,r,t,e1,aH,av⟩:=H8 o al an r t e1 aH av;replace⟨b1,b2⟩:=H2 b1 b2;go_wp2;go_roundw
     case rel=>
      refine⟨qp,a,(Cc X).1,rfl,hE.out,?_⟩;show Co X0=_;rw[an.out,r.out]
      cases qp with
      | true=>rfl
      | false=>
       show X=(Cc X).1;exact(Aa9 t.symm).symm
     case measure=>
      rw[o.out,al.out]
      cases qp with
      | true=>
       have:=Aa8 t.symm;simp[Abc];omega
      | false=>
       rw[Aa9 t.symm];simp[Abc]
def X4 (a:List (Int×Int)) (k:Nat) (b:Int):(Aq Fh a).set (k*2+1) (Z G b)=Aq Fh (a.modify k λp=>(p.1,b)):=by
 induction a generalizing k with
 | nil=>simp[Aq]
 | cons p l ih=>
  cases k with
  | zero=>simp[Aq]
  | succ k=>
   have e:(k+1)*2+1=(k*2+1)+1+1:=ao9;have:=ih k;rw[e,Vv];simp only[Aq,Pz]at this ⊢;simp only[P1,Oz,V8];rw[this]
def Aqr (a:List (Int×Int)):(Aq Fh a).length=a.length*2:=by
 induction a with
 | nil=>rfl
 | cons p l ih=>simp[Aq]at ih ⊢;omega
def Aqs {w:WD} {a pc:Nat} {n:Nat} {d:List (Int×Int)} (h:w.ownsRow 0 65 2 (V (O ⟨a,0,I⟩) n pc) n (Aq Fh d)) (k:Nat) (b:Int) :
  (w.setCell ⟨a,k*2+1,I⟩ (Z G b)).ownsRow 0 65 2 (V (O ⟨a,0,I⟩) n pc) n (Aq Fh (d.modify k λp=>(p.1,b))):=by
 refine⟨by rw[<-X4,Dl];exact h.1,?_⟩;rcases h.2 with⟨e,_⟩|⟨g,cap,c,e,l,m,h1,f,i,j⟩
 .simp at e
 .simp at e;obtain⟨rfl,rfl⟩:=e;refine .inr ⟨a,pc,c.setIfInBounds (k*2+1) (Z G b),rfl,l,Am m _ _,h1,f,by simpa using i,?_⟩;rw[<-X4,<-j];simp[List.take_set]
def aq.cu (x:aq) (p:Jb):aq:={ x with pl:=p }
def Pb {w:WD} {x:aq} (h:Bo w x) {k:Nat} (n:k<x.pn):∃c p,x.po=O ⟨c,0,I⟩/\x.pl.parts[k]?=O p/\w.cell? ⟨c,k*2,I⟩=O (Z G p.1)/\w.cell? ⟨c,k*2+1,I⟩=O (Z G p.2):=by
 have o:=I9 h;obtain⟨p,b⟩:=Ge x.pl.parts k ao9;rcases h.2 with⟨_,e⟩|⟨g,cap,l,e,_,_,_⟩
 .omega
 .simp at e;have a:=h;unfold Bo at a;rw[e.1,e.2]at a;have f:=Fw a (k*2) ao9;have i:=Fw a (k*2+1) ao9;have d:=I3 Afe x.pl.parts (j:=0) b ao9;have m:=I3 Afe x.pl.parts (j:=1) b ao9;rw[O0]at d;exact⟨g,p,e.1,b,by rw[f,d];rfl,by rw[i,m];rfl⟩
def X5 {w:WD} {b:Nat} {x:aq} (hb:Ba w b x) (hp:Bo w x) (k:Nat) (hk:k<x.pn) (pb:Nat) (g:x.po=O ⟨pb,0,I⟩) (d:Int) :
  CS prog 140 #[K (O ⟨b,0,I⟩),K (O ⟨pb,k*2,I⟩),Z G d] w λe w'=>e=Q (.tuple #[])/\Ba w' b (x.cu (Fe x.pl k d))/\Bo w' (x.cu (Fe x.pl k d))/\Mod (F3 (b,x)) w w':=by
 have f:x.pb=O pb:=by unfold aq.pb;rw[g];rfl
 have u:pb≠b:=λe=>Bx hp hb ad9 (by rw[<-e];exact f);have hl:=I9 hp;obtain⟨af,p,e,ac,_,c1⟩:=Pb hp hk;rw[g]at e;injection e with e;injection e with e _ _;subst e;obtain⟨ad,n,_⟩:=Cq hp f;have f1:=Ag n;have v:=hp;unfold Bo at v;rw[g]at v;have y:=Aqs v k d;obtain⟨w1,r⟩:=Ex (w.setCell ⟨pb,k*2+1,I⟩ (Z G d));have t:Mod (λk=>k=pb) w w1:=by rw[r];exact Mod.setCell _ _ _ _ rfl
 have j:Ba w1 b x:=t.ar hb (λe=>u e.symm);rw[<-r]at y;have o:Mod (F3 (b,x)) w w1:=t.mono λi _ e=>.inr (by rw[e];exact f)
 have h:∀(l:Lf) (W:WD),Ba W b (x.bm l)->Mod (λk=>k=b) w1 W->l=Qh d x.pl.lf->Ba W b (x.cu (Fe x.pl k d))/\Bo W (x.cu (Fe x.pl k d))/\Mod (F3 (b,x)) w W:=λl W hW hm hl=>by
  subst hl;refine⟨hW,?_,o.trans (Pa hm)⟩
  have:=A8 y hm λi hi c=>by
   simp[Value.ownBlock]at hi;exact u (hi.trans c)
  unfold Bo;show W.ownsRow 0 65 2 (V x.po x.pn x.pc) x.pn _;rw[g];exact this
 have k4:=Sl j 4 ao9;have k5:=Sl j 5 ao9;rw[r]at k4 k5
 have hs:Qh d x.pl.lf=if d=2 then(Ay x.pl.lf 4).1 else if d=3 then(Ay x.pl.lf 5).1 else x.pl.lf:=rfl
 have m:=j;have s:=Hh r;clear r n v ac;replace⟨hb,hp,g,f,u,hl,y,t⟩:=H8 hb hp g f u hl y t;replace⟨j,o,h,k4,k5,hs,m⟩:=H7 j o h k4 k5 hs m;by_cases q:d=2
 .have d1:(d == (2:Int))=true:=by rw[q];rfl
  have a:Qh d x.pl.lf=(Ay x.pl.lf 4).1:=by rw[hs.out,Ad q]
  replace⟨q,a⟩:=H2 q a;go_enter func140,ntmps140;go_wp2_with fail;refine k4.mono ?_;rw[<-s.out];rintro e w2 ⟨rfl,h1,h2⟩;replace⟨h1,h2⟩:=H2 h1 h2;go_wp2;go_end0;exact⟨rfl,h _ _ h1.out h2.out a.symm⟩
 .have d1:=Bh.2 q;by_cases z:d=3
  .have d2:(d == (3:Int))=true:=(by rw[z];rfl);have a:Qh d x.pl.lf=(Ay x.pl.lf 5).1:=(by rw[hs.out,Ab q,Ad z]);replace⟨q,z,a⟩:=H3 q z a;go_enter func140,ntmps140;go_wp2_with fail;refine k5.mono ?_;rw[<-s.out];rintro e w2 ⟨rfl,h1,h2⟩;replace⟨h1,h2⟩:=H2 h1 h2;go_wp2;go_end0;exact⟨rfl,h _ _ h1.out h2.out a.symm⟩
  .have d2:=Bh.2 z;have a:Qh d x.pl.lf=x.pl.lf:=(by rw[hs.out,Ab q,Ab z]);replace⟨q,z,a⟩:=H3 q z a;go_enter func140,ntmps140;go_wp2;go_end0;rw[<-s.out];exact⟨rfl,h _ _ m.out (Mod.refl _ _) a.symm⟩
structure vj (w:WD) (b:Nat) (x:aq) (p:Jb) (wr:WD):Prop where
 box:Ba wr b (x.cu p)
 parts:Bo wr (x.cu p)
 mod:Mod (F3 (b,x)) w wr
def Agk {w:WD} {b:Nat} {x:aq} (hb:Ba w b x) (hp:Bo w x) (a:Int) :
  CS prog 133 #[K (O ⟨b,0,I⟩),Z G a] w λe w'=>e=Q (.tuple #[])/\vj w b x (Ff x.pl a) w':=by
 have hl:=I9 hp;have h0:vj w b x (I8 x.pl a 0) w:=⟨hb,hp,Mod.refl _ _⟩;have y:=Bk hb 21 (V x.po x.pn x.pc) rfl;obtain⟨po,l⟩:=Ex (x.po);obtain⟨pn,g⟩:=Ex (x.pn);obtain⟨pc,s⟩:=Ex (x.pc)
 have an:pn<=9223372036854775807:=by
  rw[g];rcases hp.2 with⟨_,e2⟩|⟨g',am,ao,e2,_,_,h1,h2,_⟩
  .omega
  .unfold maxLen at h2;omega
 rw[<-l,<-g,<-s]at y;have hJ:Ff x.pl a=I8 x.pl a pn:=by unfold Ff;rw[hl,g]
 rw[hJ];replace⟨hb,hp,hl,h0,l,g,s,hJ⟩:=H8 hb hp hl h0 l g s hJ;go_enter func133,ntmps133;go_wp2;clear y;go_loopw [4,5,11] (λ_ _ i wr=>∃k:Nat,i=Z G k/\k<=pn/\Hid (vj w b x (I8 x.pl a k) wr)) (λ_ _ i _=>pn-(intOf i).toNat)
 case atStart=>exact⟨0,rfl,Ar _,h0.out⟩
 case round=>
  obtain⟨k,rfl,hk,hG⟩:=hrel;by_cases hc:k<pn
  .have al:(k:Int)<pn:=ao9;have ap:(0:Int)<=(k:Int):=ao9;obtain⟨j,hj⟩:=Ex (I8 x.pl a k);obtain⟨X,n⟩:=Ex (x.cu j);have d:=hG.out;rw[<-hj]at d;have r:Bo wr X:=(by rw[n];exact d.parts);have o:Ba wr b X:=(by rw[n];exact d.box);have ac:k<X.pn:=(by rw[n];show k<x.pn;rw[<-g.out];exact hc);obtain⟨pb,p,e,ad,c0,c1⟩:=Pb r ac;have e2:po=O ⟨pb,0,I⟩:=(by rw[l.out,<-e,n];rfl);have y:wr.cell? ⟨b,21,I⟩=O (V (O ⟨pb,0,I⟩) pn pc):=(by rw[Aa o 21,n];show O (Value.slice x.po x.pn x.pc)=_;rw[<-l.out,<-g.out,<-s.out,e2]);have h:=X5 o r k ac pb e 3;obtain⟨t,u⟩:=p
   have f:I8 x.pl a (k+1)=if u=0/\(a<0\/t=a)then Fe j k 3 else j:=by
    show O7 (I8 x.pl a k) k a=_;rw[<-hj];have af:j.parts[k]?=O (t,u):=(by rw[<-ad,n];rfl);unfold O7;rw[af]
   have hw:∀W:WD,Ba W b (X.cu (Fe X.pl k 3))/\Bo W (X.cu (Fe X.pl k 3))/\Mod (F3 (b,X)) wr W->u=0/\(a<0\/t=a)->vj w b x (I8 x.pl a (k+1)) W:=λW ⟨h1,h2,h3⟩ hq=>by
    rw[f,Ad hq];rw[n]at h1 h2 h3;exact⟨h1,h2,d.mod.trans h3⟩
   have hn:¬(u=0/\(a<0\/t=a))->vj w b x (I8 x.pl a (k+1)) wr:=λhq=>by
    rw[f,Ab hq];exact d
   clear ad;replace⟨d,r,o,h,f,hw,hn,e⟩:=H8 d r o h f hw hn e;replace⟨e2,n,hj,hG⟩:=H4 e2 n hj hG;by_cases q:u=0
   .have d1:(u == (0:Int))=true:=(by rw[q];rfl);by_cases q2:a<0
    .have m:u=0/\(a<0\/t=a):=⟨q,.inl q2⟩;replace⟨q,m⟩:=H2 q m;go_wp2_with fail;refine h.mono ?_;rintro e w2 ⟨rfl,hh⟩;have c:=hw _ hh m.out;clear hh;replace c:=Hh c;go_wp2;go_roundw
     case rel=>exact⟨k+1,by go_num,ao9,c.out⟩
     case measure=>simp[intOf];omega
    .by_cases v:t=a
     .have m:u=0/\(a<0\/t=a):=⟨q,.inr v⟩;have d3:(t == a)=true:=(by rw[v];simp);replace⟨q,m,v⟩:=H3 q m v;go_wp2_with fail;refine h.mono ?_;rintro e w2 ⟨rfl,hh⟩;have c:=hw _ hh m.out;clear hh;replace c:=Hh c;go_wp2;go_roundw
      case rel=>exact⟨k+1,by go_num,ao9,c.out⟩
      case measure=>simp[intOf];omega
     .have d3:=Bh.2 v;have c:=hn.out λm=>m.2.elim q2 v;replace⟨q,v,c⟩:=H3 q v c;go_wp2;go_roundw
      case rel=>exact⟨k+1,by go_num,ao9,c.out⟩
      case measure=>simp[intOf];omega
   .have d1:=Bh.2 q;have c:=hn.out λm=>q m.1;replace⟨q,c⟩:=H2 q c;go_wp2;go_roundw
    case rel=>exact⟨k+1,by go_num,ao9,c.out⟩
    case measure=>simp[intOf];omega
  .have al:¬(k:Int)<pn:=ao9;have z:k=pn:=ao9;have d:=hG.out;rw[z]at d;replace⟨d,z⟩:=H2 d z;go_wp2;go_end0;exact⟨rfl,d.out⟩
def Aqt:∀args w,(callFunc 183 args).run prog w=.ok (.enter 183 args) w:=Iy func183 ad9 (by simp[f183])
def Agl {w:WD} {x:aq} (h:Bo w x):Nj w x.po x.pn x.pl.parts:=by
 have o:=I9 h;refine⟨o,?_,λi p c=>?_⟩
 .rcases h.2 with⟨_,e⟩|⟨g,cap,b,e,_,_,h1,l,_⟩
  .omega
  .unfold maxLen at l;omega
 .have q:=(Ap.1 c).1;obtain⟨d,r,e,a,f,j⟩:=Pb h (k:=i) ao9;rw[c]at a;injection a with a;subst a;have m:x.pb=O d:=by unfold aq.pb;rw[e];rfl
  obtain⟨b,n,_⟩:=Cq h m;exact⟨d,e,Ac n,f,j⟩
def Bo.low {w w':WD} {x:aq} (h:Bo w x) (a:BW w.heap.size w w'):Bo w' x:=A8 (S:=λ_=>False) h (Mod.ag a) λ_ _ c=>c
def Aqu (x:Int×Int) (w:WD):CS prog 183 (#[.agg #[Z G x.1,Z G x.2]]++#[]) w λe w'=>e=Q (Y (decide (x.2=0)))/\BW w.heap.size w w':=by
 have a:Hid (BW w.heap.size w (w.alloc (J #[Z G x.1,Z G x.2] 65 (0,0)))):=Hh Bn;by_cases q:x.2=0
 .have d:(x.2 == (0:Int))=true:=by rw[q];rfl
  have b:=Bs q;rw[b];replace⟨q,b⟩:=H2 q b;go_enter func183,ntmps183;go_wp2;go_ret;exact⟨rfl,a.out⟩
 .have d:=Bh.2 q;have b:=Bz q;rw[b];replace⟨q,b⟩:=H2 q b;go_enter func183,ntmps183;go_wp2;go_ret;exact⟨rfl,a.out⟩
def Aqv {w:WD} {x:aq} (h:Bo w x):CS prog 182 #[V x.po x.pn x.pc,.func (.func 183) #[] #[]] w λe w'=>e=Q (Y x.pl.open_)/\BW w.heap.size w w':=
 Aqe 183 #[] (λp=>decide (p.2=0)) x.po x.pn x.pc x.pl.parts w (Agl h) Aqt λp _ w1 _=>Aqu p w1
def D4 (f:Jb->Jb) (X:List Jb):Nat->List Jb
 | 0=>X
 | n+1=>(D4 f X n).modify n f
def Abd (f:Jb->Jb) (X:List Jb) (n i:Nat):(D4 f X n)[i]?=if i<n then(X[i]?).map f else X[i]?:=by
 induction n with
 | zero=>simp[D4]
 | succ n ih=>
  show((D4 f X n).modify n f)[i]?=_;rw[Fc,ih];by_cases h:n=i
  .subst h;simp
  .by_cases b:i<n
   .have a:i<n+1:=ao9;simp[h,b,a]
   .have a:¬i<n+1:=ao9;simp[h,b,a]
def Sm (f:Jb->Jb) (X:List Jb):D4 f X X.length=X.map f:=by
 apply Eg;intro i;rw[Abd,Bm];split
 .rfl
 .have:X[i]?=I:=Rh ao9;rw[this];rfl
def X6 (f:Jb->Jb) (a:∀j,(f j).sp=j.sp) (X:List Jb) (n:Nat):(D4 f X n).map Jb.sp=X.map Jb.sp:=by
 apply Eg;intro i;rw[Bm,Bm,Abd];split
 .rw [Option.map_map];congr 1
  funext j
  exact a j
 .rfl
def Agm (j:Jb):(Dz j).sp=j.sp:=by
 unfold Dz;split
 .rfl
 .split<;>rfl
def aq.fw (x:aq):aq:={ x with pl:={ x.pl with parts:=[] },po:=I,pn:=0,pc:=0 }
def Agn (x:aq):Gy x x.fw:=⟨rfl,rfl,rfl,rfl,rfl,rfl,.inl ⟨rfl,rfl,rfl,rfl⟩,λb h=>by cases h⟩
def Ago (w:WD) (x:aq):Bo w x.fw:=Mu _ _ _ _
def Aqw {x:aq} {w:WD} (h:Bo w x):(x.pn:Int)=0↔x.pl.parts=[]:=by
 have:=I9 h;rw[<-Fv];omega
def Ki.then {w w1:WD} {T:Tv} {js:List (Nat×aq)} {X:List Jb} {e:Ending} {w':WD} (h:Bp w T js w1) (b:Ki w1 { T with js:=js } X e w'):Ki w T X e w':=by
 obtain⟨h1,a,c,d⟩:=b;exact⟨h1,a,h.then c,d⟩
def Abe {w:WD} {T:Tv} (h:Al w T) (ha:D3 T.pl.ab):CS prog 134 #[K (O ⟨T.tb,0,I⟩)] w (Ki w T (I7 T.pl.ab)):=by
 obtain⟨so,cap,aJ,a4,aV,_⟩:=h.mr;obtain⟨tb,ht⟩:=Ex (T.tb);obtain⟨m,hm⟩:=Ex (T.js.length);obtain⟨x,al⟩:=Ex (T.pl.ab);have aH:jl w T T.js (D4 Dz x 0) w:=⟨Bp.refl h,al.symm,by show D3 x;rw[al];exact ha⟩;have aN:x.length=m:=by rw[al,hm];simp[Tv.pl]
 have aE:∀(js:List (Nat×aq)) (X:List Jb) (W:WD),jl w T js X W->W.cell? ⟨tb,4,I⟩=O (V so m cap):=λjs X W hW=>by
  rw[ht,Aa hW.tab.at_.head 4,hm,<-aJ];rfl
 have row:∀(js:List (Nat×aq)) (X:List Jb) (W:WD),jl w T js X W->∀k,k<m->∃g j,so=O ⟨g,0,I⟩/\js[k]?=O j/\W.cell? ⟨g,k,I⟩=O (K (O ⟨j.1,0,I⟩)):=λjs X W hW k hk=>by
  have hl:js.length=m:=by rw[hm];exact hW.tab.len
  obtain⟨j,hj⟩:=Ge js k ao9;obtain⟨a0,aU,e1,_,_,hr⟩:=hW.tab.at_.mr;obtain⟨g,e2,hc⟩:=hr k j hj;have e3:T.jv=V a0 js.length aU:=e1;rw[aJ]at e3;injection e3 with e3 _ _;exact⟨g,j,e3.trans e2,hj,hc⟩
 have c4:=aE _ _ _ aH;rw[hm.symm]at aV;rw[<-ht,<-al];replace⟨h,ha,aJ,al,aH,aE,row,hm⟩:=H8 h ha aJ al aH aE row hm;replace⟨ht,aN⟩:=H2 ht aN;go_enter func134,ntmps134;go_wp2;clear c4;go_loopw [3,10] (λ_ i wr=>∃(k:Nat) (js:List (Nat×aq)),i=Z G k/\k<=m/\Hid (jl w T js (D4 Dz x k) wr)) (λ_ i _=>m-(intOf i).toNat)
 case atStart=>exact⟨0,T.js,rfl,Ar _,aH.out⟩
 case round=>
  obtain⟨k,js,rfl,hk,hE⟩:=hrel;by_cases hc:k<m
  .have aX:(k:Int)<m:=ao9;have a3:(0:Int)<=(k:Int):=ao9;obtain⟨g,j,rfl,hj,cr⟩:=row _ _ _ hE.out k hc;obtain⟨jb,b⟩:=j;obtain⟨Y9q,hY⟩:=Ex (D4 Dz x k);have a:=hE.out;rw[<-hY]at a;obtain⟨aD,am⟩:=a.tab.get hj;have ap:Y9q[k]?=O b.pl:=(by rw[<-a.pl];simp[hj]);have n:D4 Dz x (k+1)=Y9q.modify k Dz:=(by rw[hY];rfl);have p:D3 (D4 Dz x (k+1)):=Qo a.jq (by rw[X6 _ Agm,hY,X6 _ Agm]);have r:=Aqw am.parts;have a1:=Bk aD 21 (V b.po b.pn b.pc) rfl;obtain⟨pn,u⟩:=Ex (b.pn);obtain⟨po,ao⟩:=Ex (b.po);obtain⟨pc,an⟩:=Ex (b.pc);rw[<-u,<-ao,<-an]at a1;have z:=Aqv am.parts;rw[<-u,<-ao,<-an]at z;have aF:=λ(W:WD) (hW:Ba W jb b)=>Sl hW 8 ao9
   have s:∀y,b.pl.parts=[]\/b.pl.open_=true->y=D4 Dz x (k+1)->y=Y9q:=λy hy e=>by
    rw[e,n];have e1:Dz b.pl=b.pl:=Ad hy;apply Eg;intro i;rw[Fc];by_cases h:k=i
    .subst h;simp[ap,e1]
    .simp [h]
   by_cases q0:pn=0
   .have d1:((pn:Int) == 0)=true:=(by rw[q0];rfl);have d:jl w T js (D4 Dz x (k+1)) wr:=(by rw[s _ (.inl (r.1 (by rw[<-u,q0];rfl))) rfl];exact a);replace⟨q0,hE,a,hj,aD,am,hY,ap⟩:=H8 q0 hE a hj aD am hY ap;replace⟨n,p,r,u,ao,an,z,aF⟩:=H8 n p r u ao an z aF;replace⟨s,d⟩:=H2 s d;go_wp2;go_roundw
    case rel=>exact⟨k+1,js,by go_num,ao9,d.out⟩
    case measure=>simp[intOf];omega
   .have d1:((pn:Int) == 0)=false:=(by rw[Bh];omega);obtain⟨q,hq⟩:=Ex (b.pl.open_);rw[<-hq]at z;replace⟨q0,hE,a,hj,aD,am,hY,ap⟩:=H8 q0 hE a hj aD am hY ap;replace⟨n,p,r,u,ao,an,z,aF⟩:=H8 n p r u ao an z aF;replace⟨s,hq⟩:=H2 s hq;go_wp2_with fail;refine z.mono ?_;rintro e w1 ⟨rfl,aA⟩;have o:=a.low aA;have t:=(o.tab.get hj.out).1
    cases q with
    | true=>
     have d:jl w T js (D4 Dz x (k+1)) w1:=(by rw[s _ (.inr hq.symm) rfl];exact o);replace⟨aA,o,t,d⟩:=H4 aA o t d;go_wp2;go_roundw
     case rel=>exact⟨k+1,js,by go_num,ao9,d.out⟩
     case measure=>simp[intOf];omega
    | false=>
     have ad:=aF _ t;obtain⟨l,hl⟩:=Ex ((Ay b.pl.lf 8).1);rw[<-hl]at ad
     have aL:Dz b.pl=if l.st=1 then⟨b.pl.id,b.pl.sp,l,-1,[],[]⟩else⟨b.pl.id,b.pl.sp,l,b.pl.start,b.pl.aj,[]⟩:=by
      have aY:¬(b.pl.parts=[]\/b.pl.open_=true):=λc=>by
       rcases c with c|c
       .exact q0.out (by have:=r.2 c;rw[u.out];omega)
       .rw [<-hq.out]at c;cases c
      rw[hl];exact Ab aY
     replace⟨aA,o,t,ad,hl,aL⟩:=H6 aA o t ad hl aL;go_wp2_with fail;refine ad.mono ?_;rintro e w2 ⟨rfl,aB,aR⟩;obtain⟨w3,aG⟩:=Ex (w2.setCell ⟨jb,21,I⟩ (V I 0 0));have aC:Ba w3 jb (b.bm l).fw:=(by unfold Ba;rw[aG,Am aB];simp[aq.fw]);have aK:Kb jb w1 w3:=(by rw[aG];exact aR.trans (Mod.setCell _ _ _ _ rfl));have aW:∃v,w2.cell? ⟨jb,21,I⟩=O v:=⟨_,Aa aB 21⟩;obtain⟨a5,aW⟩:=aW;have fz:=Ag aB;have a2:=Bk aC 14 (Z G l.st) rfl;have aI:=Xt aC;rw[aG]at a2 aI;have aM:=Hh aG;clear aG;replace⟨aB,aR,aC,aK,aI⟩:=H5 aB aR aC aK aI;by_cases q1:l.st=1
     .have d3:=M5.2 q1;have ac:Dz b.pl=⟨b.pl.id,b.pl.sp,l,-1,[],[]⟩:=(by rw[aL.out,Ad q1]);replace⟨q1,ac⟩:=H2 q1 ac;go_wp2_with fail;refine aI.mono ?_;rw[<-aM.out];rintro e w4 ⟨rfl,aO,aS⟩
      have af:=
       o.tab.dj hj.out (Pa (aK.trans aS)) aO (Ago _ (b.bm l).bare) (((Xw _ _).trans (Agn _)).trans (Xx _))
      have d:jl w T (js.set k (jb,(b.bm l).fw.bare)) (D4 Dz x (k+1)) w4:=(by refine⟨af,?_,p.out⟩;rw[Nk js hj.out (f:=Dz) (by rw[ac.out];rfl),o.pl,n.out]);replace⟨aO,aS,af,d⟩:=H4 aO aS af d;go_wp2;go_roundw
      case rel=>exact⟨k+1,_,by go_num,ao9,d.out⟩
      case measure=>simp[intOf];omega
     .have d3:=Bh.2 q1;have ac:Dz b.pl=⟨b.pl.id,b.pl.sp,l,b.pl.start,b.pl.aj,[]⟩:=by rw[aL.out,Ab q1]
      have af:=
       o.tab.dj hj.out (Pa aK.out) aC.out (Ago _ (b.bm l)) ((Xw _ _).trans (Agn _))
      have d:jl w T (js.set k (jb,(b.bm l).fw)) (D4 Dz x (k+1)) w3:=(by refine⟨af,?_,p.out⟩;rw[Nk js hj.out (f:=Dz) (by rw[ac];rfl),o.pl,n.out]);rw[aM.out]at d;clear af;replace⟨q1,ac,d⟩:=H3 q1 ac d;go_wp2;go_roundw
      case rel=>exact⟨k+1,_,by go_num,ao9,d.out⟩
      case measure=>simp[intOf];omega
  .have aX:¬(k:Int)<m:=ao9;have aT:k=m:=ao9;have a:=hE.out;have av:D4 Dz x k=x.map Dz:=(by rw[aT,<-aN.out];exact Sm _ _);rw[av]at a
   have aP:CS prog 130 #[K (O ⟨tb,0,I⟩)] wr (Ki wr { T with js:=js } (Co (x.map Dz))):=by
    have:=X3 (T:={ T with js:=js }) a.tab.at_ (by
     show D3 (js.map λj=>j.2.pl)
     rw[a.pl];exact a.jq)
    rw[show({ T with js:=js }:Tv).pl.ab=x.map Dz from a.pl]at this;rw[ht.out];exact this
   replace⟨aP,a,av,aT,hE⟩:=H5 aP a av aT hE;go_wp2_with fail;refine aP.mono ?_;rintro e w2 hp
   have aZ:=Ki.then a.tab hp
   obtain⟨rfl,aQ⟩:=aZ;replace aQ:=Hh aQ;clear hp;go_wp2;go_end0;exact⟨rfl,aQ.out⟩
def Gn (kind:Int):Int:=if kind=3 then 6 else if kind=4 then 1 else 2
def Agp (k:Int) (w:WD):CS prog 101 #[Z G k] w λe w'=>e=Q (Z G (Gn k))/\w'=w:=by
 by_cases q:k=3
 .have d:(k == (3:Int))=true:=by rw[q];rfl
  have a:Gn k=6:=Ad q;rw[a];replace⟨q,a⟩:=H2 q a;go_enter func101,ntmps101;go_wp2;go_ret;exact⟨rfl,rfl⟩
 .have d:=Bh.2 q;by_cases b:k=4
  .have c:(k == (4:Int))=true:=(by rw[b];rfl);have a:Gn k=1:=(by unfold Gn;rw[Ab q,Ad b]);rw[a];replace⟨q,a,b⟩:=H3 q a b;go_enter func101,ntmps101;go_wp2;go_ret;exact⟨rfl,rfl⟩
  .have c:=Bh.2 b;have a:Gn k=2:=(by unfold Gn;rw[Ab q,Ab b]);rw[a];replace⟨q,a,b⟩:=H3 q a b;go_enter func101,ntmps101;go_wp2;go_ret;exact⟨rfl,rfl⟩
def Aqx {α:Type} {p:α->Bool} {l:List α} {k:Nat} {x:α} (h:∀i y,i<k->l[i]?=O y->p y=false) (d:l[k]?=O x) (c:p x=true):l.findIdx? p=O k:=by
 obtain⟨b,e⟩:=Ap.1 d;rw[Ze];refine⟨b,by rw[e];exact c,λj a=>?_⟩;have:=h j _ a (Az ao9);simp[this]
def Aqy {α:Type} {p:α->Bool} {l:List α} {n:Nat} (c:l.length=n) (h:∀i y,i<n->l[i]?=O y->p y=false):l.findIdx? p=I:=by
 rw[List.findIdx?_eq_none_iff];intro x b;obtain⟨i,a,e⟩:=Pw.1 b;exact h i x ao9 (by rw[Az a,e])
def Agq (x:aq) (attempt node:Int) (w:WD) (e:Ending) (w':WD):Prop:=
 w'=w/\((Gj x.pl attempt node=I/\e=Q (K I))\/∃k pb,Gj x.pl attempt node=O k/\x.po=O ⟨pb,0,I⟩/\k<x.pn/\e=Q (K (O ⟨pb,k*2,I⟩)))
def Agr {w:WD} {b:Nat} {x:aq} (hb:Ba w b x) (hp:Bo w x) (attempt node:Int):CS prog 102 #[K (O ⟨b,0,I⟩),Z G attempt,Z G node] w (Agq x attempt node w):=by
 have hl:=I9 hp
 have a:Gj x.pl attempt node=if di x.pl.lf.st=true/\x.pl.lf.bp=attempt then x.pl.parts.findIdx? (λp=>decide (p.1=node) && decide (p.2=0))else I:=rfl
 have am:=Bk hb 14 (Z G x.pl.lf.st) rfl;have an:=Bk hb 15 (Z G x.pl.lf.bp) rfl;have ao:=Bk hb 21 (V x.po x.pn x.pc) rfl;obtain⟨st,af⟩:=Ex (x.pl.lf.st);obtain⟨at_,ac⟩:=Ex (x.pl.lf.bp);obtain⟨po,u⟩:=Ex (x.po);obtain⟨pn,f⟩:=Ex (x.pn);obtain⟨pc,ad⟩:=Ex (x.pc);have ap:pn<=9223372036854775807:=by rw[f];exact(Agl hp).max
 rw[<-af]at am a;rw[<-ac]at an a;rw[<-u,<-f,<-ad]at ao;have j:=Qm st w;obtain⟨q,hq⟩:=Ex (di st);rw[<-hq]at j a;replace⟨hb,hp,hl,af,ac,u,f,ad⟩:=H8 hb hp hl af ac u f ad;replace⟨j,hq⟩:=H2 j hq
 cases q with
 | false=>
  have d:Gj x.pl attempt node=I:=by rw[a];exact Ab (λc=>by cases c.1)
  replace⟨a,d⟩:=H2 a d;go_enter func102,ntmps102;go_wp2_with fail;refine j.mono ?_;rintro e w' ⟨rfl,rfl⟩;go_wp2;go_ret;exact⟨rfl,.inl ⟨d.out,rfl⟩⟩
 | true=>
  by_cases qa:at_=attempt
  .have d1:(at_ != attempt)=false:=(by rw[qa];simp);have g:Gj x.pl attempt node=x.pl.parts.findIdx? (λp=>decide (p.1=node) && decide (p.2=0)):=(by rw[a];exact Ad ⟨rfl,qa⟩);replace⟨a,g,qa⟩:=H3 a g qa;go_enter func102,ntmps102;go_wp2_with fail;refine j.mono ?_;rintro e w' ⟨rfl,rfl⟩;go_wp2;go_loopw [7,8,30] (λ_ _ i wr=>∃k:Nat,i=Z G k/\k<=pn/\Hid (∀i y,i<k->x.pl.parts[i]?=O y->(decide (y.1=node) && decide (y.2=0))=false)/\wr=w') (λ_ _ i _=>pn-(intOf i).toNat)
   case atStart=>exact⟨0,rfl,Ar _,(λi y h=>by omega),rfl⟩
   case round=>
    obtain⟨k,rfl,hk,l,rfl⟩:=hrel;by_cases hc:k<pn
    .have al:(k:Int)<pn:=ao9;have av:(0:Int)<=(k:Int):=ao9;obtain⟨pb,p,e,t,c0,c1⟩:=Pb hp.out (k:=k) (by rw[<-f.out];exact hc);have v:=u.out;rw[e]at v;obtain⟨p1,p2⟩:=p;subst v
     have s:(decide (p1=node) && decide (p2=0))=false->∀i y,i<k+1->x.pl.parts[i]?=O y->(decide (y.1=node) && decide (y.2=0))=false:=λhf i y hi m=>by
      by_cases c:i=k
      .subst c;rw[t]at m;injection m with m;rw[<-m];exact hf
      .exact l.out i y ao9 m
     have o:(decide (p1=node) && decide (p2=0))=true->Gj x.pl attempt node=O k:=λhf=>by
      rw[g.out];exact Aqx l.out t hf
     replace⟨t,s,o,e⟩:=H4 t s o e;by_cases r:p1=node
     .have d2:(p1 == node)=true:=(by rw[r];simp);by_cases z:p2=0
      .have d3:(p2 == (0:Int))=true:=(by rw[z];rfl);have m:=o (by simp[r,z]);replace⟨r,z,m⟩:=H3 r z m;go_wp2;go_ret;exact⟨rfl,.inr ⟨k,pb,m.out,e.out,by rw[<-f.out];exact hc,rfl⟩⟩
      .have d3:=Bh.2 z;have hn:=s (by simp[z]);replace⟨r,z,hn⟩:=H3 r z hn;go_wp2;go_roundw
       case rel=>exact⟨k+1,by go_num,ao9,hn.out,trivial⟩
       case measure=>simp[intOf];omega
     .have d2:=Bh.2 r;have hn:=s (by simp[r]);replace⟨r,hn⟩:=H2 r hn;go_wp2;go_roundw
      case rel=>exact⟨k+1,by go_num,ao9,hn.out,trivial⟩
      case measure=>simp[intOf];omega
    .have al:¬(k:Int)<pn:=ao9
     have d:Gj x.pl attempt node=I:=by rw[g.out];exact Aqy (n:=pn) (by rw[hl.out,f.out]) λi y hi m=>l.out i y ao9 m
     replace d:=Hh d;go_wp2;go_ret;exact⟨rfl,.inl ⟨d.out,rfl⟩⟩
  .have d1:(at_ != attempt)=true:=(by rw[Gf];exact qa);have d:Gj x.pl attempt node=I:=(by rw[a];exact Ab (λc=>qa c.2));replace⟨a,d,qa⟩:=H3 a d qa;go_enter func102,ntmps102;go_wp2_with fail;refine j.mono ?_;rintro e w' ⟨rfl,rfl⟩;go_wp2;go_ret;exact⟨rfl,.inl ⟨d.out,rfl⟩⟩
variable {w w':WD} {T:Tv}
def Al.j7 (h:Al w T) {j:Nat×aq} (f:j∈T.js) {b:Nat} {c:Array VL} {a:TypeId} (d:w.heap[b]?=O (J c a (0,0))) (h1:a≠46):j.1≠b:=λe=>by
 have:=h.box j f;rw[Ba,e,d]at this;injection this with this;injection this with _ this;exact h1 this
def Al.fj (h:Al w T) {b:Nat} {c:Array VL} {d:TypeId} (f:w.heap[b]?=O (J c d (0,0))):T.mb≠b:=λe=>by
 obtain⟨i,g,a⟩:=h.cls.ar;rw[e,f]at a;injection a with a;cases a
def Al.oj (h:Al w T) (e t:Int) (a:Mod (λk=>k=T.tb) w w') (i:w'.heap[T.tb]?=O (J #[Z G e,Z G t,.map (O T.mb),T.nv,T.jv,K (O ⟨T.fb,0,I⟩),T.cv] 115 (0,0))):Al w' { T with ai:=e,tick:=t }:=by
 have g:T.bh T.tb:=.inl rfl
 have b:Mod T.bh w w':=a.mono λk _ e=>by rw[e];exact g
 refine⟨i,h.cls.mod a (h.fj h.head),A8 h.nodes a (λk e c=>Bx h.nodes h.head ad9 (by rw[<-c];exact e)),A8 h.ab a (λk e c=>Bx h.ab h.head ad9 (by rw[<-c];exact e)),
  A8 h.az a (λk e c=>Bx h.az h.head ad9 (by rw[<-c];exact e)),λj d=>a.ar (h.box j d) (h.j7 d h.head ad9),λj d=>?_,h.one,h.two,h.dp.mod b (λ_ c=>.inl c),h.same⟩
 have f:=h.ok j d;exact f.mod b (λ_ _ c=>c) (A8 f.parts a (λk e c=>Bx f.parts h.head ad9 (by rw[<-c];exact e)))
def Al.qq (h:Al w T) (l:List Ej) (t:l.length=T.nodes.length) (d:Mod (λk=>T.nv.ownBlock=O k) w w') (q:w'.ownsRow 0 119 3 T.nv l.length (Aq E2 l)):Al w' { T with nodes:=l }:=by
 have f:Mod T.bh w w':=d.mono λk _ e=>.inr (.inr (.inl e))
 have i:∀k,T.nv.ownBlock=O k->∃c,w.heap[k]?=O (J c 119 (0,0)):=λk e=>by
  obtain⟨c,b,_⟩:=Cq h.nodes e;exact⟨c,b⟩
 have a:∀ {B size n:Nat} {r:TypeId} {v:VL} {xs:List VL},w.ownsRow B r size v n xs->r≠119->∀k,v.ownBlock=O k->¬T.nv.ownBlock=O k:=λq o k s c=>by
  obtain⟨m,b⟩:=i k c;exact Bx q b o s
 refine⟨d.ar h.head (λc=>?_),h.cls.mod d (λc=>?_),q,A8 h.ab d (a h.ab ad9),A8 h.az d (a h.az ad9),λj g=>d.ar (h.box j g) (λc=>?_),λj g=>?_,h.one,h.two,h.dp.mod f (λ_ c=>.inl c),t.trans h.same⟩
 .obtain ⟨m,b⟩:=i _ c;have:=h.head;rw[b]at this;injection this with this;injection this with _ this;exact absurd this ad9
 .obtain ⟨m,b⟩:=i _ c;exact h.fj b rfl
 .obtain ⟨m,b⟩:=i _ c;exact h.j7 g b ad9 rfl
 .have p:=h.ok j g;exact p.mod f (λ_ _ c=>c) (A8 p.parts d (a p.parts ad9))
def Au7 {w:WD} {B size n:Nat} {b:TypeId} {g cap:Nat} {xs:List VL} (h:w.ownsRow B b size (V (O ⟨g,0,I⟩) n cap) n xs) (o:Nat) (v:VL) :
  (w.setCell ⟨g,o,I⟩ v).ownsRow B b size (V (O ⟨g,0,I⟩) n cap) n (xs.set o v):=by
 refine⟨by rw[Dl];exact h.1,?_⟩;rcases h.2 with⟨e,_⟩|⟨l,c,a,e,j,k,h1,d,f,i⟩
 .simp at e
 .simp at e;obtain⟨rfl,rfl⟩:=e;refine .inr ⟨g,cap,a.setIfInBounds o v,rfl,j,Am k _ _,h1,d,by simpa using f,?_⟩;rw[<-i];simp[List.take_set]
def Au8 (b:List Ej) (i j:Nat) (v:VL) (f:Ej->Ej) (d:j<3) (c:∀x:Ej,(E2 x).toList.set j v=(E2 (f x)).toList):(Aq E2 b).set (i*3+j) v=Aq E2 (b.modify i f):=by
 induction b generalizing i with
 | nil=>simp[Aq]
 | cons p l ih=>
  have a:∀(q:Ej) (m:List Ej),Aq E2 (q :: m)=(E2 q).toList++Aq E2 m:=λq m=>by simp[Aq]
  cases i with
  | zero=>
   rw[List.modify_zero_cons,a,a,<-c p,Nat.zero_mul,Dm,List.set_append];rw[Ad (by simpa using d)]
  | succ i=>
   rw[Vv,a,a,<-ih,List.set_append];rw[Ab (by simp;omega)];congr 2;simp;omega
end
section
open Go.RowKit Go.Maps Go.Lib
variable {w w1 w':WD} {B:Nat}
def Db {B:Nat} {a w:WD} (h:BW B a w) {g o:Nat} {v:VL} (c:B<=g):BW B a (w.setCell ⟨g,o,I⟩ v):=
 ⟨h.os,h.tape,h.output,by have:=h.size;simpa[World.setCell]using this,λk b=>(Ci _ _ _ _ (λe=>by simp at e;omega)).trans (h.block k b)⟩
def Im {n:Int} (h1:-9223372036854775808<=n) (a:n<=9223372036854775807):IntKind.i64.wrap n=n:=by
 simp[IntKind.wrap,IntKind.signed,IntKind.bits];omega
def Aj.nil (w:WD) (B:Nat):Aj w B (V I 0 0) []:=⟨rfl,.inl ⟨rfl,rfl⟩⟩
def Aj.mod {S:Nat->Prop} {v:VL} {l:List Int} (h:Aj w B v l) (a:Mod S w w') (b:∀k,v.ownBlock=O k->¬S k):Aj w' B v l:=⟨A8 h.row a b⟩
def Aj.lt {v:VL} {l:List Int} (h:Aj w B v l):∀k,v.ownBlock=O k->B<=k/\k<w.heap.size:=λk a=>h.row.lt k a
def Aj.le {v:VL} {l:List Int} {B':Nat} (h:Aj w B v l) (a:B'<=B):Aj w B' v l:=⟨Joins.ownsRow_le h.row a⟩
def Aj.len {v:VL} {l:List Int} (h:Aj w B v l):∃so n c,v=V so n c/\n=l.length:=by
 rcases h.row.2 with⟨rfl,h0⟩|⟨g,cap,a,rfl,_⟩
 .exact ⟨I,0,0,rfl,h0.symm⟩
 .exact ⟨_,_,_,rfl,rfl⟩
def Aj.cell {g n c:Nat} {l:List Int} (h:Aj w B (V (O ⟨g,0,I⟩) n c) l) {i:Nat} {x:Int} (b:l[i]?=O x):w.cell? ⟨g,i,I⟩=O (Z G x):=by
 have p:=(Ap.1 b).1;rcases h.row.2 with⟨e,_⟩|⟨j,cap,a,e,o,f,h1,k,m,d⟩
 .cases e
 .injection e with e1 e2 e3;injection e1 with e1;injection e1 with e1;subst e1
  have:(a.toList.take (l.length*1))[i]?=O (Z G x):=by rw[d];simp[Bj,b]
  rw[Lr,Ad ao9]at this;simpa[World.cell?,f]using this
def Aj.num {g n c:Nat} {l:List Int} (h:Aj w B (V (O ⟨g,0,I⟩) n c) l):n=l.length:=by
 obtain⟨so,m,a,e,b⟩:=h.len;injection e with _ e;omega
def Mp {p:Array Oper} {rest:List Oper} {o:Oper} {a:Act} {w:WD} {Q9q:Exit->Act->WD->Prop} (z:o.guard=I) (s x:Operand)
  (ho:o.op=.call { callee:=.builtin .append,args:=#[s,x],argTypes:=#[31,31] })
  (B L:Nat) (v:VL) (hs:a.eval s=v) {l:List Int} (f:Aj w B v l) (t:l.length=L) (r:Addr) (c:Nat) (hx:a.eval x=V (O r) 1 c) (k:Int) (hk:w.cell? r=O (Z G k)) (hL:L<=1000000000) (hb:B<=w.heap.size)
  (h:∀g cap w',Aj w' B (V (O ⟨g,0,I⟩) (L+1) cap) (l++[k])->w.grownBy w' v.ownBlock->(v.ownBlock=O g\/g=w.heap.size)->wpList prog p Q9q rest (a.put o.dst (V (O ⟨g,0,I⟩) (L+1) cap)) w') :
  wpList prog p Q9q (o :: rest) a w:=by
 obtain⟨i3,ac,af,i,m⟩:=B6 Lx;subst t;refine Ri w z s x 31 ho B 3 i3 _ 1 8 Nx ac af i m rfl ad9 v l.length (Bj l) hs f.row r 1 c [Z G k] hx rfl ?_ (by simp[Value.oneCell']) (Gh (n:=l.length) ao9) ao9 hb ?_
 .intro j u q
  match j,q with
  | 0,q=>
   simp at q;subst q;simpa[Addr.add]using hk
 .intro v' w' b d _ y;obtain⟨g,cap,rfl⟩:=Joins.ownsRow_form b ao9;refine h g cap w' ⟨?_⟩ d ?_
  .rw [Av];simpa[Bj]using b
  .rcases y with e|e
   .exact .inl e.symm
   .simp [Value.ownBlock]at e;exact .inr e
structure Cy (w:WD) (B g cap:Nat) (svs:List VL) (ls:List (List Int)):Prop where
 row:w.ownsRow B 31 1 (V (O ⟨g,0,I⟩) ls.length cap) ls.length svs
 each:∀(i:Nat) (sv:VL) (l:List Int),svs[i]?=O sv->ls[i]?=O l->Aj w B sv l
 two:svs.Pairwise λa b=>∀k,a.ownBlock=O k->b.ownBlock≠O k
 rj:ls.length<=cap
variable {g cap:Nat} {svs:List VL} {ls:List (List Int)}
def Cy.len (h:Cy w B g cap svs ls):svs.length=ls.length:=by have:=h.row.1;omega
def Cy.ar (h:Cy w B g cap svs ls):B<=g/\g<w.heap.size/\∃c,w.heap[g]?=O (J c 31 (0,0)):=by
 obtain⟨c,a,b⟩:=Cq h.row (g:=g) rfl;exact⟨b,Ac a,c,a⟩
def Cy.get (h:Cy w B g cap svs ls) {i:Nat} (d:i<ls.length):∃so n c l,svs[i]?=O (V so n c)/\ls[i]?=O l/\n=l.length/\w.cell? ⟨g,i,I⟩=O (V so n c)/\Aj w B (V so n c) l:=by
 have h1:svs[i]?=O (svs[i]'(by rw[h.len];exact d)):=Az _;have b:ls[i]?=O ls[i]:=Az _;have a:=h.each i _ _ h1 b;obtain⟨so,n,c,e,f⟩:=a.len;rw[e]at h1 a;refine⟨so,n,c,_,h1,b,f,?_,a⟩;rw[Fw h.row i ao9,h1]
def Cy.ne (h:Cy w B g cap svs ls) {i:Nat} {a:VL} (d:svs[i]?=O a) {l:List Int} (e:ls[i]?=O l):a.ownBlock≠O g:=by
 obtain⟨_,_,c,b⟩:=h.ar;exact Bx (h.each i a l d e).row b ad9
def Cy.low (h:Cy w B g cap svs ls) (a:BW w.heap.size w w'):Cy w' B g cap svs ls:=
 ⟨A8 h.row (Mod.ag (S:=λ_=>False) a) (λ_ _ c=>c),λi d l h1 b=>(h.each i d l h1 b).mod (Mod.ag (S:=λ_=>False) a) (λ_ _ c=>c),h.two,h.rj⟩
def Cy.off {S:Nat->Prop} (h:Cy w B g cap svs ls) (c:Mod S w w') (f:¬S g) (e:∀(i:Nat) (a:VL),svs[i]?=O a->∀k,a.ownBlock=O k->¬S k):Cy w' B g cap svs ls:=
 ⟨A8 h.row c (λk b=>by simp[Value.ownBlock]at b;subst b;exact f),λi a l h1 d=>(h.each i a l h1 d).mod c (λk b=>e i a h1 k b),h.two,h.rj⟩
def Au9 {svs:List VL} {i:Nat} {v:VL} (h:svs.Pairwise λa b=>∀k,a.ownBlock=O k->b.ownBlock≠O k) (m:∀(j:Nat) (u:VL),svs[j]?=O u->j≠i->∀k,u.ownBlock=O k->v.ownBlock≠O k) :
  (svs.set i v).Pairwise λa b=>∀k,a.ownBlock=O k->b.ownBlock≠O k:=by
 refine Ot.2 λa b n o g=>?_;have d:=Az n;have c:=Az o;generalize (svs.set i v)[a]=ya at d ⊢;generalize (svs.set i v)[b]=yb at c ⊢;rw[Do]at d c;by_cases h1:i=a
 .subst h1;have f:i≠b:=ao9
  rw[Ab f]at c;simp only[Ky]at d;split at d
  .injection d with d;subst d;intro k l e;exact m b yb c ao9 k e l
  .cases d
 .rw [Ab h1]at d;by_cases f:i=b
  .subst f;simp only[Ky]at c;split at c
   .injection c with c;subst c;intro k l e;exact m a ya d ao9 k l e
   .cases c
  .rw [Ab f]at c;exact Fj h d c g
def Cy.put (h:Cy w B g cap svs ls) {i:Nat} {y o:VL} {l l':List Int} (r:svs[i]?=O y) (hl:ls[i]?=O l) (hg:w.grownBy w1 y.ownBlock) (ho:Aj w1 B o l') (z:∀k,o.ownBlock=O k->y.ownBlock=O k\/k=w.heap.size)
  : Cy (w1.setCell ⟨g,i,I⟩ o) B g cap (svs.set i o) (ls.set i l'):=by
 have hm:=Mod.grown hg (λk f=>f);have t:=h.ne r hl;obtain⟨ac,ad,c,hc⟩:=h.ar;have q:=A8 h.row hm (λk f e=>by simp[Value.ownBlock]at f;subst f;exact t e)
 have x:o.ownBlock≠O g:=λe=>by
  rcases z g e with e|e
  .exact t e
  .omega
 have s:=(Ap.1 r).1;have n:∀ {u:VL} {m:List Int},Aj w1 B u m->u.ownBlock≠O g->Aj (w1.setCell ⟨g,i,I⟩ o) B u m:=λb hn=>⟨A8 b.row (Mod.setCell (S:=λk=>k=g) w1 g i o rfl) (λk f e=>hn (by rw[f,e]))⟩;refine⟨?_,?_,?_,?_⟩
 .rw [Dl];exact(q.stored i o).1
 .intro j u m b a;rw[Do]at b a;by_cases p:i=j
  .subst p;simp only[Ky]at b a;split at b
   .injection b with b;subst b;split at a
    .injection a with a;subst a;exact n ho x
    .cases a
   .rename_i hx;exact absurd s hx
  .rw [Ab p]at b a;have hj:=h.each j u m b a;refine n (hj.mod hm λk f e=>?_) (h.ne b a);rcases Rj p with d|d
   .exact Fj h.two r b d k e f
   .exact Fj h.two b r d k f e
 .refine Au9 h.two λj u b v k f e=>?_;rcases z k e with e|e
  .rcases Rj v with d|d
   .exact Fj h.two b r d k f e
   .exact Fj h.two r b d k e f
  .have:j<ls.length:=by rw[<-h.len];exact(Ap.1 b).1
   have:=((h.each j u _ b (Az this)).lt k f).2;omega
 .rw [Dl];exact h.rj
end
section
open Go.RowKit Go.Maps Go.Lib
variable{d:Nat}{u v:V4}{w wr:WD}
def Ace (n:Int) (w:WD):CS prog 297 #[Z G n] w λe w'=>e=Q (Z G (Eu n))/\w'=w:=by
 go_enter func297,ntmps297;go_wp2;go_ret;exact⟨Acd (by simp[Eu]),rfl⟩
def Pm (n:Int):0<=Eu n/\Eu n<=1152921504606846976:=by unfold Eu;omega
def Pn (d:Nat) (u v:V4):V4:=⟨if 0<d then Jq u.a v.a else 0,if 1<d then Jq u.b v.b else 0,if 2<d then Jq u.c v.c else 0,if 3<d then Jq u.d v.d else 0⟩
structure rf (w:WD) (u v:V4) (d:Nat) (wr:WD):Prop where
 low:BW w.heap.size w wr
 b1:wr.heap[w.heap.size]?=O (J u.cells 30 (0,0))
 b2:wr.heap[w.heap.size+1]?=O (J v.cells 30 (0,0))
 res:wr.heap[w.heap.size+2]?=O (J V4.zero.cells 30 (0,0))
 acc:wr.heap[w.heap.size+3]?=O (J (Pn d u v).cells 30 (0,0))
def rf.next {w wr w':WD}   (h:rf w u v d wr) (a:BW wr.heap.size wr w'):rf w u v d w':=
 ⟨h.low.trans (a.mono h.low.size),Ae a h.b1 (Ac h.b1),Ae a h.b2 (Ac h.b2),Ae a h.res (Ac h.res),Ae a h.acc (Ac h.acc)⟩
def rf.set    (h:rf w u v d wr) (a:d<4):rf w u v (d+1) (wr.setCell ⟨w.heap.size+3,d,I⟩ (Z G (Jq (u.get d) (v.get d)))):=
 ⟨Db h.low ao9,(Ci _ _ _ _ (λe=>by simp at e)).trans h.b1,(Ci _ _ _ _ (λe=>by simp at e)).trans h.b2,(Ci _ _ _ _ (λe=>by simp at e)).trans h.res,by
  have e:(Pn d u v).cells.setIfInBounds d (Z G (Jq (u.get d) (v.get d)))=(Pn (d+1) u v).cells:=by rcases(by omega:d=0\/d=1\/d=2\/d=3)with rfl|rfl|rfl|rfl<;>simp[Pn,V4.get]
  rw[<-e];exact Am h.acc _ _⟩
def U4  {b:Nat}  {T:TypeId} {fr:Nat×Nat} (h:w.heap[b]?=O (J v.cells T fr))  (a:d<4):w.cell? ⟨b,d,I⟩=O (Z G (v.get d)):=by
 rw[Aa h d]
 rcases(by omega:d=0\/d=1\/d=2\/d=3)with rfl|rfl|rfl|rfl<;>rfl
def Avp (u v:V4)  (a:d<4):(Pn d u v).get d=0:=by
 rcases(by omega:d=0\/d=1\/d=2\/d=3)with rfl|rfl|rfl|rfl<;>simp[Pn,V4.get]
def Ajh (u v:V4) (w:WD):CS prog 252 #[u.val,v.val] w λe w'=>e=Q (Kg u v).val/\BW w.heap.size w w':=by
 obtain⟨W0,h⟩:=Ex ((((w.alloc (J u.cells 30)).alloc (J v.cells 30)).alloc (J #[Z G 0,Z G 0,Z G 0,Z G 0] 30)).alloc (J #[Z G 0,Z G 0,Z G 0,Z G 0] 30));have g:rf w u v 0 W0:=by rw[h];exact⟨((Bn.alloc as9 _).alloc (by simp;omega) _).alloc (by simp;omega) _,Ak _ (Ak _ (Ak _ (Ah _ _))),Ak _ (Ak _ (A2 _ _ as9)),Ak _ (A2 _ _ as9),A2 _ _ as9⟩
 replace g:=Hh g;go_enter func252,ntmps252;go_upto_region 2 with fail;rw[<-h];clear h;go_wp2_with fail;go_loopw [6,7] (λ_ iv wr=>∃(d:Nat),iv=Z G d/\d<=4/\Hid (rf w u v d wr)) (λ_ iv _=>4-(intOf iv).toNat)
 case atStart=>exact⟨0,rfl,ao9,g⟩
 case round=>
  obtain⟨d,rfl,af,b⟩:=hrel;by_cases c:d<4
  .have ac:(d:Int)<4:=ao9;have ad:(0:Int)<=(d:Int):=ao9;obtain⟨x,p⟩:=Ex (u.get d);obtain⟨y,q⟩:=Ex (v.get d);have u0:=p▸U4 b.b1 c;have v0:=q▸U4 b.b2 c;have z0:=(U4 b.acc c).trans (by rw[Avp _ _ c]);have fr:=Ag b.acc
   have i:∀n,rf w u v (d+1) ((wr.drewN n).setCell ⟨w.heap.size+3,d,I⟩ (Z G (Jq x y))):=λn=>by
    rw[p,q];exact(b.next (A6 _ wr n)).set c
   have r:=Ace x;have s:=Ace y
   have m:∀W,CS prog 297 #[Z G (IntKind.i64.wrap (Eu x+Eu y))] W λe w'=>e=Q (Z G (Jq x y))/\w'=W:=by rw[Im (by have:=Pm x;have:=Pm y;omega) (by have:=Pm x;have:=Pm y;omega)];exact Ace (Eu x+Eu y)
   obtain⟨r1,j⟩:=Ex (Eu x);obtain⟨r2,k⟩:=Ex (Eu y);obtain⟨r3,l⟩:=Ex (Jq x y);rw[<-j]at r m;rw[<-k]at s m;rw[<-l]at m i;replace⟨i,r,s,m,j,k,l,p⟩:=H8 i r s m j k l p;replace q:=Hh q;go_upto_region 5 with fail
   go_region_with (first
    | (go_at_call 297;((with_reducible refine(r.out _).mono ?_);rintro e w1 ⟨rfl,rfl⟩))
    | (go_at_call 297;((with_reducible refine(s.out _).mono ?_);rintro e w1 ⟨rfl,rfl⟩))
    | (go_at_call 297;((with_reducible refine(m.out _).mono ?_);rintro e w1 ⟨rfl,rfl⟩)))
   all_goals
    go_wp2_with fail;go_roundw
    case rel=>exact⟨d+1,by go_num,ao9,Hh (by first|exact i.out 0|exact i.out 1|exact i.out 2|exact i.out 3)⟩
    case measure=>simp[intOf];omega
  .have t:d=4:=ao9;subst t;obtain⟨z,o⟩:=Ex (Pn 4 u v);have f:z=Kg u v:=(by rw[o];simp[Pn,Kg]);rw[f]at o;obtain⟨za,zb,zc,zd⟩:=z;have a:=b.acc;rw[<-o,<-f]at a;have u0:=Bk a 0 (Z G za) rfl;have u1:=Bk a 1 (Z G zb) rfl;have u2:=Bk a 2 (Z G zc) rfl;have u3:=Bk a 3 (Z G zd) rfl;have r0:=Bk b.res 0 (Z G 0) rfl;have r1:=Bk b.res 1 (Z G 0) rfl;have r2:=Bk b.res 2 (Z G 0) rfl;have r3:=Bk b.res 3 (Z G 0) rfl;have fr:=Ag b.res;replace⟨o,f,a⟩:=H3 o f a;go_wp2;refine An (v:=V4.val ⟨za,zb,zc,zd⟩) (by simp[results,results252,go_sem,r0,r1,r2,r3]) rfl ⟨by rw[<-f.out],?_⟩;exact Db (Db (Db (Db b.low ao9) ao9) ao9) ao9
