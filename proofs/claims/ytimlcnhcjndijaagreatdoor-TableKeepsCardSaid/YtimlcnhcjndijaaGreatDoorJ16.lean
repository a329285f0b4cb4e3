/- Parts of a proof. No condition. -/
import Derived.Test.YtimlcnhcjndijaaGreatDoorJ12
import Derived.Test.YtimlcnhcjndijaaGreatDoorJ14
import Derived.Test.YtimlcnhcjndijaaGreatDoorJ15
set_option linter.all false
set_option maxRecDepth 100000
set_option maxHeartbeats 3200000
namespace Go.Proofs.YtimlcnhcjndijaaGreatDoor
open Option renaming none->I,some->O
open Obj renaming cells->J
open IntKind renaming i64->G
open Value renaming int->Z,slice->V,bool->Q,string->D,pointer->K
open Ending renaming returned->Y
open Go renaming World->WD,Value->VL,Calls->CS
open Go.RowKit renaming Below->BW
open Go.Proofs.Tryz
section
open Go.RowKit Go.Maps Go.Lib
structure Mod (S:Nat->Prop) (w w':WD):Prop where
 os:w'.os=w.os
 tape:w'.tape=w.tape
 output:w'.output=w.output
 size:w.heap.size<=w'.heap.size
 block:∀k,k<w.heap.size->¬S k->w'.heap[k]?=w.heap[k]?
def Mod.refl (S:Nat->Prop) (w:WD):Mod S w w:=⟨rfl,rfl,rfl,Nat.le_refl _,λ_ _ _=>rfl⟩
def Mod.af {S:Nat->Prop} {w w':WD} (h:BW w.heap.size w w'):Mod S w w':=⟨h.os,h.tape,h.output,h.size,λk a _=>h.block k a⟩
def Mod.mono {S S':Nat->Prop} {w w':WD} (h:Mod S w w') (d:∀k,k<w.heap.size->S k->S' k):Mod S' w w':=⟨h.os,h.tape,h.output,h.size,λk a b=>h.block k a λc=>b (d k a c)⟩
def Mod.then {S S':Nat->Prop} {w w1 e:WD} (h:Mod S w w1) (a:Mod S' w1 e) (f:∀k,k<w.heap.size->S' k->S k):Mod S w e:=
 ⟨a.os.trans h.os,a.tape.trans h.tape,a.output.trans h.output,A8 h.size a.size,λk b d=>
  (a.block k (Bq b h.size) λc=>d (f k b c)).trans (h.block k b d)⟩
def Mod.trans {S:Nat->Prop} {w w1 a:WD} (h:Mod S w w1) (b:Mod S w1 a):Mod S w a:=h.then b λ_ _ c=>c
def Mod.low {S:Nat->Prop} {w w1 a:WD} (h:Mod S w w1) (b:BW w1.heap.size w1 a):Mod S w a:=h.trans (Mod.af b)
def Mod.setCell {S:Nat->Prop} (w:WD) (b o:Nat) (v:VL) (a:S b):Mod S w (w.setCell ⟨b,o,I⟩ v):=
 ⟨rfl,rfl,rfl,by simp[World.setCell],λk _ c=>C1 _ _ _ _ (λe=>c (e▸a))⟩
def Mod.set {S:Nat->Prop} {w w1:WD} (h:Mod S w w1) (b o:Nat) (v:VL) (a:S b):Mod S w (w1.setCell ⟨b,o,I⟩ v):=h.trans (Mod.setCell w1 b o v a)
def Mod.grown {S:Nat->Prop} {w w':WD} {row:Option Nat} (h:w.grownBy w' row) (c:∀k,row=O k->S k):Mod S w w':=
 ⟨h.os,h.tape,h.output,h.size,λk a b=>h.block k a λe=>b (c k e.symm)⟩
def Mod.alloc (S:Nat->Prop) (w:WD) (o:Obj):Mod S w (w.alloc o):=Mod.af Bn
def Mod.drew {S:Nat->Prop} {w w':WD} (h:Mod S w w'):Mod S w w'.drew:=⟨h.os,h.tape,h.output,h.size,h.block⟩
def Mod.below {S:Nat->Prop} {B:Nat} {w w':WD} (h:Mod S w w') (b:B<=w.heap.size) (a:∀k,S k->B<=k):BW B w w':=
 ⟨h.os,h.tape,h.output,h.size,λk d=>h.block k ao9 λc=>by have:=a k c;omega⟩
def Mod.au {S:Nat->Prop} {k:Nat} {w w':WD} {o:Obj} (h:Mod S w w') (a:w.heap[k]?=O o) (b:¬S k):w'.heap[k]?=O o:=(h.block k (Ab a) b).trans a
def Bd {S:Nat->Prop} {w w':WD} {B size n:Nat} {T:TypeId} {v:VL} {xs:List VL} (h:w.ownsRow B T size v n xs) (d:Mod S w w') (f:∀k,v.ownBlock=O k->¬S k):w'.ownsRow B T size v n xs:=by
 refine⟨h.1,?_⟩;rcases h.2 with e|⟨g,cap,a,rfl,c,b,rest⟩
 .exact .inl e
 .exact .inr ⟨g,cap,a,rfl,c,d.au b (f g rfl),rest⟩
def C7 {w:WD} {B size n:Nat} {T:TypeId} {v:VL} {xs:List VL} (h:w.ownsRow B T size v n xs) {g:Nat} (b:v.ownBlock=O g):∃a,w.heap[g]?=O (J a T (0,0))/\B<=g:=by
 rcases h.2 with⟨rfl,_⟩|⟨e,cap,a,rfl,d,c,_⟩
 .simp [Value.ownBlock]at b
 .simp [Value.ownBlock]at b;subst b;exact⟨a,c,d⟩
def Bv {w:WD} {B size n:Nat} {T f:TypeId} {v:VL} {xs:List VL} (h:w.ownsRow B T size v n xs) {b:Nat} {c:Array VL} {fr:Nat×Nat} (a:w.heap[b]?=O (J c f fr)) (d:T≠f):v.ownBlock≠O b:=λe=>by
 obtain⟨g,i,_⟩:=C7 h e;rw[i]at a;injection a with a;injection a with _ a;exact d a
def Ark {w:WD} {B size n:Nat} {T:TypeId} {v:VL} {xs:List VL} (h:w.ownsRow B T size v n xs) {b:Nat} {f:Array MapEntry} {c:Nat} (a:w.heap[b]?=O (.map f c)):v.ownBlock≠O b:=λe=>by
 obtain⟨d,g,_⟩:=C7 h e;rw[g]at a;injection a with a;cases a
structure Eo (w:WD) (S:Nat->Prop) (so:Option Addr) (n:Nat) (l:List Int):Prop where
 row:At w so n l
 off:0<n->∀b o,so=O ⟨b,o,I⟩->¬S b
def Eo.mod {S S':Nat->Prop} {w w':WD} {so:Option Addr} {n:Nat} {l:List Int} (h:Eo w S so n l) (g:Mod S w w') (q:∀k,k<w.heap.size->S' k->S k):Eo w' S' so n l:=
 ⟨⟨h.row.len,h.row.max,λi x d=>by
  obtain⟨b,c,e,a,p⟩:=h.row.cell i x d;have s:=(An.1 d).1;refine⟨b,c,e,Bq a g.size,?_⟩;rw[<-p]
  simp only[World.cell?,g.block b a (h.off (by have:=h.row.len;omega) b c e)]⟩,λh0 b o e m=>by
  obtain⟨x,d⟩:=h.row.get (i:=0) h0;obtain⟨r,j,f,a,_⟩:=h.row.cell 0 x d;rw[e]at f;cases f
  exact h.off h0 b o e (q b a m)⟩
def Ag5 (w:WD) (S:Nat->Prop):Eo w S I 0 []:=⟨Yi w,λh=>absurd h ao9⟩
abbrev Fr (p:Int×Int):Array VL:=#[Z G p.1,Z G p.2]
structure aj where
 pl:Jb
 so:Option Addr
 sn:Nat
 sc:Nat
 go:Option Addr
 gn:Nat
 gc:Nat
 po:Option Addr
 pn:Nat
 pc:Nat
abbrev aj.cells (x:aj):Array VL:=#[Z G x.pl.id,D x.pl.sp.user,D x.pl.sp.part,Z G x.pl.sp.nodes,Z G x.pl.sp.df.a,Z G x.pl.sp.df.b,Z G x.pl.sp.df.c,Z G x.pl.sp.df.d,Z G x.pl.sp.wall,Z G x.pl.sp.prio,Z G x.pl.sp.array,Z G x.pl.sp.ae,Q x.pl.sp.held,V x.so x.sn x.sc,Z G x.pl.lf.st,Z G x.pl.lf.bh,Z G x.pl.lf.left,Q x.pl.lf.wall,Q x.pl.lf.stop,Z G x.pl.start,V x.go x.gn x.gc,V x.po x.pn x.pc]
abbrev aj.val (x:aj):VL:=.agg #[Z G x.pl.id,D x.pl.sp.user,D x.pl.sp.part,Z G x.pl.sp.nodes,Z G x.pl.sp.df.a,Z G x.pl.sp.df.b,Z G x.pl.sp.df.c,Z G x.pl.sp.df.d,Z G x.pl.sp.wall,Z G x.pl.sp.prio,Z G x.pl.sp.array,Z G x.pl.sp.ae,Q x.pl.sp.held,V x.so x.sn x.sc,Z G x.pl.lf.st,Z G x.pl.lf.bh,Z G x.pl.lf.left,Q x.pl.lf.wall,Q x.pl.lf.stop,Z G x.pl.start,V x.go x.gn x.gc,V x.po x.pn x.pc]
def aj.pb (x:aj):Option Nat:=(Value.slice x.po x.pn x.pc).ownBlock
def Bj (w:WD) (b:Nat) (x:aj):Prop:=w.heap[b]?=O (J x.cells 46 (0,0))
def Ca (w:WD) (x:aj):Prop:=w.ownsRow 0 65 2 (V x.po x.pn x.pc) x.pn (Aw Fr x.pl.parts)
structure O2 (w:WD) (S:Nat->Prop) (x:aj):Prop where
 after:Eo w S x.so x.sn x.pl.sp.after
 om:x.sn<=x.sc
 ah:Eo w S x.go x.gn x.pl.ah
 ou:x.gn<=x.gc
 parts:Ca w x
 user:x.pl.sp.user.size<=maxLen
 part:x.pl.sp.part.size<=maxLen
def aj.zero:aj:=⟨⟨0,du.zero,Lf.zero,0,[],[]⟩,I,0,0,I,0,0,I,0,0⟩
def aj.bm (x:aj) (l:Lf):aj:={ x with pl:={ x.pl with lf:=l } }
def aj.bare (x:aj):aj:={ x with pl:=x.pl.bare,go:=I,gn:=0,gc:=0 }
def Ag6 (p:Int×Int):(Fr p).size=2:=rfl
def Ks {w:WD} {x:aj} (h:Ca w x):x.pl.parts.length=x.pn:=by
 have:=h.1
 have e:(Aw Fr x.pl.parts).length=x.pl.parts.length*2:=by
  induction x.pl.parts with
  | nil=>rfl
  | cons p l ih=>simp[Aw]at ih ⊢;omega
 omega
abbrev Ez (x:E6):Array VL:=#[Q x.up,Q x.bt,Z G x.since]
def Js (c:Cl):VL:=.agg #[Z G c.seq,Z G c.e,Z G c.first,Z G c.last]
structure Tv where
 tb:Nat
 mb:Nat
 nv:VL
 jv:VL
 fb:Nat
 fm:Nat
 fl:Nat
 cv:VL
 ai:Int
 tick:Int
 cls:List (Int×Cl)
 nodes:List E6
 js:List (Nat×aj)
 vs:List ar
def Tv.pl (T:Tv):dq:=⟨T.ai,T.tick,T.cls,T.nodes,T.js.map λj=>j.2.pl⟩
def Tv.ax (T:Tv) (b:Nat):Prop:=b=T.tb\/b=T.mb\/T.nv.ownBlock=O b\/T.jv.ownBlock=O b\/∃j,j∈T.js/\(j.1=b\/j.2.pb=O b)
def oq (c:Cl):DU:=.agg [.lit (.int G c.seq),.lit (.int G c.e),.lit (.int G c.first),.lit (.int G c.last)]
def Gz (n:Int):Lit:=.int G n
def Cl.zero:Cl:=⟨0,0,0,0⟩
def Arl {c d:Cl} (h:Js c=Js d):c=d:=by
 obtain⟨a1,a2,a3,f⟩:=c;obtain⟨g,i,j,k⟩:=d;simp[Js]at h;obtain⟨h1,a,b,e⟩:=h;subst h1 a b e;rfl
def Arm {c d:Cl} (h:oq c=oq d):c=d:=by
 obtain⟨a1,a2,a3,f⟩:=c;obtain⟨g,i,j,k⟩:=d;simp[oq]at h;obtain⟨h1,a,b,e⟩:=h;subst h1 a b e;rfl
open Classical in
noncomputable def P3 (v:VL):Option (DU×List MemPlace):=if h:∃c,v=Js c then O (oq h.choose,[])else I
def Ag7 (c:Cl):P3 (Js c)=O (oq c,[]):=by
 unfold P3;have h:∃d,Js c=Js d:=⟨c,rfl⟩;rw[dif_pos h,<-Arl h.choose_spec]
def Arn {v:VL} {z:DU×List MemPlace} (h:P3 v=O z):∃c,v=Js c/\z=(oq c,[]):=by
 unfold P3 at h;split at h
 .rename_i a;injection h with h;exact⟨a.choose,a.choose_spec,h.symm⟩
 .cases h
def Aro {v:VL} {c:Cl} {a:List MemPlace} (h:P3 v=O (oq c,a)):v=Js c:=by
 obtain⟨d,rfl,e⟩:=Arn h;injection e with e _;rw[Arm e]
def Q8 (l:List (Int×Cl)):DU:=.map (l.map λp=>(Gz p.1,oq p.2))
def Lc (l:List (Int×Cl)) (id:Int):Cl:=((l.find? λp=>decide (p.1=id)).map Prod.snd).getD Cl.zero
def O3 (x:Int×Cl):List (Int×Cl)->List (Int×Cl)
 | []=>[x]
 | y :: r=>if x.1<y.1 then x :: y :: r else y :: O3 x r
def G2 (l:List (Int×Cl)) (id:Int) (c:Cl):List (Int×Cl):=O3 (id,c) (l.filter λp=>!decide (p.1=id))
def Arp (x:Int×Cl) (l:List (Int×Cl)):DataW.insert (H:=Unit) (Gz x.1,oq x.2) (l.map λp=>(Gz p.1,oq p.2))=(O3 x l).map λp=>(Gz p.1,oq p.2):=by
 induction l with
 | nil=>rfl
 | cons y r ih=>
  simp only[Ko,DataW.insert,O3];by_cases h:x.1<y.1
  .have a:(Gz x.1).before (Gz y.1)=true:=(by simp[Gz,Lit.before,h]);rw[Ad h,Ad a];rfl
  .have a:(Gz x.1).before (Gz y.1)=false:=(by simp[Gz,Lit.before];omega);rw[Ac h,a];simp[ih]
def Ag8 (a b:Int):(Gz a).sameKey (Gz b)=decide (a=b):=by simp[Gz,Lit.sameKey]
def Arq (l:List (Int×Cl)) (a:Int) (c:Cl):(Q8 l).put (Gz a) (oq c)=Q8 (G2 l a c):=by
 unfold Q8 G2;simp only[DataW.put];rw[<-Arp,Uc];simp[Jk,Ag8]
def Arr (l:List (Int×Cl)) (a:Int):(Q8 l).atKey (Gz a) (oq Cl.zero)=oq (Lc l a):=by
 unfold Q8 Lc;simp only[DataW.atKey];rw[List.find?_map];simp only[Jk,Ag8]
 cases List.find? (λp:Int×Cl=>decide (p.1=a)) l<;>rfl
def Ars {w:WD} {P:Program} {k:TypeId} {R:VL->Option (DU×List MemPlace)} {b n:Nat} {l:List (Lit×DU)} (h:w.ownsMap P k R b n (.map l)):w.ownsMap P k R b l.length (.map l):=by
 obtain⟨d,a,e,F,f,c⟩:=h;refine⟨d,a,e,F,?_,c⟩;injection c with c;rw[c,length_sorted];simp
def M3 (w:WD) (mb:Nat) (l:List (Int×Cl)):Prop:=w.ownsMap (H:=Unit) prog 3 P3 mb l.length (Q8 l)
def M3.au {w:WD} {c:Nat} {l:List (Int×Cl)} (h:M3 w c l):∃b d,w.heap[c]?=O (.map b d):=by
 obtain⟨b,a,e,_⟩:=h;exact⟨b,a,e⟩
def M3.mod {S:Nat->Prop} {w w':WD} {b:Nat} {l:List (Int×Cl)} (h:M3 w b l) (f:Mod S w w') (g:¬S b):M3 w' b l:=by
 obtain⟨c,a,e,F,i,d⟩:=h;exact⟨c,a,f.au e g,F,i,d⟩
structure Sq (w:WD) (S:Nat->Prop) (fb fm fl:Nat) (vs:List ar):Prop where
 ex:∃w0,lu w0 fb fm fl vs/\BW w0.heap.size w0 w/\∀b,S b->w0.heap.size<=b
 ok:Jr vs
def Sq.ye {w:WD} {S:Nat->Prop} {a c b:Nat} {vs:List ar} (h:Sq w S a c b vs):lu w a c b vs:=by
 obtain⟨e,h1,d,_⟩:=h.ex;exact h1.below d
def Sq.mod {S S':Nat->Prop} {w w':WD} {a e d:Nat} {vs:List ar} (h:Sq w S a e d vs) (j:Mod S w w') (l:∀k,S' k->S k\/w.heap.size<=k):Sq w' S' a e d vs:=by
 obtain⟨n,h1,f,g⟩:=h.ex;have m:=f.size;refine⟨⟨n,h1,f.trans (j.below m g),λb i=>?_⟩,h.ok⟩;rcases l b i with c|c
 .exact g b c
 .omega
structure Ao (w:WD) (T:Tv):Prop where
 head:w.heap[T.tb]?=O (J #[Z G T.ai,Z G T.tick,.map (O T.mb),T.nv,T.jv,K (O ⟨T.fb,0,I⟩),T.cv] 115 (0,0))
 cls:M3 w T.mb T.cls
 nodes:w.ownsRow 0 119 3 T.nv T.nodes.length (Aw Ez T.nodes)
 ab:w.ownsRow 0 125 1 T.jv T.js.length (T.js.map λj=>K (O ⟨j.1,0,I⟩))
 az:w.ownsRow 0 30 4 T.cv T.vs.length (Aw V4.cells (T.vs.map ar.cap))
 box:∀j,j∈T.js->Bj w j.1 j.2
 ok:∀j,j∈T.js->O2 w T.ax j.2
 one:(T.js.map Prod.fst).Nodup
 two:T.js.Pairwise λx y=>∀b,x.2.pb=O b->y.2.pb≠O b
 dt:Sq w T.ax T.fb T.fm T.fl T.vs
 same:T.nodes.length=T.vs.length
variable {w w':WD} {T:Tv}
def Ao.tp (h:Ao w T) {j:Nat×aj} (e:j∈T.js) {b:Nat} (a:j.2.pb=O b):∃c,w.heap[b]?=O (J c 65 (0,0)):=by
 obtain⟨c,d,_⟩:=C7 (h.ok j e).parts a;exact⟨c,d⟩
def Ao.iu (h:Ao w T) {b:Nat} (c:T.ax b):b<w.heap.size:=by
 rcases c with rfl|rfl|e|e|⟨j,a,e|e⟩
 .exact Ab h.head
 .exact h.cls.lt
 .exact (Oo h.nodes b e).2
 .exact (Oo h.ab b e).2
 .exact e▸Ab (h.box j a)
 .exact (Oo (h.ok j a).parts b e).2
def O2.mod {S S':Nat->Prop} {x:aj} (h:O2 w S x) (a:Mod S w w') (b:∀k,k<w.heap.size->S' k->S k) (c:Ca w' x):O2 w' S' x:=
 ⟨h.after.mod a b,h.om,h.ah.mod a b,h.ou,c,h.user,h.part⟩
def Ao.low (h:Ao w T) (e:BW w.heap.size w w'):Ao w' T:=by
 have a:Mod (λ_=>False) w w':=Mod.af e;have b:Mod T.ax w w':=Mod.af e
 exact⟨a.au h.head (λc=>c),h.cls.mod a (λc=>c),Bd h.nodes a (λ_ _ c=>c),Bd h.ab a (λ_ _ c=>c),Bd h.az a (λ_ _ c=>c),
  λj d=>a.au (h.box j d) (λc=>c),λj d=>(h.ok j d).mod b (λ_ _ c=>c) (Bd (h.ok j d).parts a (λ_ _ c=>c)),h.one,h.two,h.dt.mod b (λ_ c=>.inl c),h.same⟩
def G3 (j:Nat×aj) (b:Nat):Prop:=b=j.1\/j.2.pb=O b
def Tv.cg (T:Tv) (i:Nat) (j:Nat×aj):Tv:={ T with js:=T.js.set i j }
def Sr {i:Nat} {j x:Nat×aj} (d:T.js[i]?=O x) (c:j.1=x.1) {b:Nat} (h:(T.cg i j).ax b):T.ax b\/j.2.pb=O b:=by
 rcases h with e|e|e|e|⟨k,a,e⟩
 .exact .inl (.inl e)
 .exact .inl (.inr (.inl e))
 .exact .inl (.inr (.inr (.inl e)))
 .exact .inl (.inr (.inr (.inr (.inl e))))
 .rcases Wd a with a|rfl
  .exact .inl (.inr (.inr (.inr (.inr ⟨k,a,e⟩))))
  .rcases e with e|e
   .exact .inl (.inr (.inr (.inr (.inr ⟨x,Ai d,.inl (c.symm.trans e)⟩))))
   .exact .inr e
def Gm {α:Type} {R:α->α->Prop} {l:List α} (h:l.Pairwise R) {i k:Nat} {x y:α} (c:l[i]?=O x) (d:l[k]?=O y) (a:i<k):R x y:=by
 obtain⟨h1,rfl⟩:=An.1 c;obtain⟨b,rfl⟩:=An.1 d;exact L1.1 h i k h1 b a
def Ao.apart (h:Ao w T) {i k:Nat} {x y:Nat×aj} (d:T.js[i]?=O x) (f:T.js[k]?=O y) (c:i≠k):x.1≠y.1/\∀b,x.2.pb=O b->y.2.pb≠O b:=by
 have h1:(T.js.map Prod.fst)[i]?=O x.1:=by simp[d]
 have j:(T.js.map Prod.fst)[k]?=O y.1:=by simp[f]
 rcases R7 c with a|a
 .exact ⟨λe=>Gm h.one h1 j a e,Gm h.two d f a⟩
 .exact ⟨λe=>Gm h.one j h1 a e.symm,λb l g=>Gm h.two f d a b g l⟩
def Ao.cg (h:Ao w T) {i:Nat} {x j:Nat×aj} (hx:T.js[i]?=O x) (hb:j.1=x.1) (hm:Mod (G3 x) w w') (am:Bj w' j.1 j.2) (hp:Ca w' j.2)
  (ad:∀b,j.2.pb=O b->x.2.pb=O b\/w.heap.size<=b)
  (ha:Eo w' (T.cg i j).ax j.2.so j.2.sn j.2.pl.sp.after) (aG:j.2.sn<=j.2.sc) (hg:Eo w' (T.cg i j).ax j.2.go j.2.gn j.2.pl.ah) (aI:j.2.gn<=j.2.gc)
  (hu:j.2.pl.sp.user.size<=maxLen) (aK:j.2.pl.sp.part.size<=maxLen):Ao w' (T.cg i j):=by
 have u:=Ai hx;have av:=h.box x u;have hJ:∀b,G3 x b->T.ax b:=λb c=>.inr (.inr (.inr (.inr ⟨x,u,c.imp (λe=>e.symm) id⟩)));have an:=hm.mono λb _ c=>hJ b c
 have ap:∀k,k<w.heap.size->(T.cg i j).ax k->T.ax k:=λk d c=>by
  rcases Sr hx hb c with c|c
  .exact c
  .rcases ad k c with c|c
   .exact hJ k (.inr c)
   .omega
 have n1:∀(o:Obj) (k:Nat),w.heap[k]?=O o->(∀c fr,o≠J c 46 fr)->(∀c fr,o≠J c 65 fr)->¬G3 x k:=λo k d h1 h2 c=>by
  rcases c with rfl|c
  .rw [av]at d;injection d with d;exact h1 _ _ d.symm
  .obtain ⟨c',g⟩:=h.tp u c;rw[g]at d;injection d with d;exact h2 _ _ d.symm
 have r:∀ {B size n:Nat} {Ty:TypeId} {v:VL} {xs:List VL},w.ownsRow B Ty size v n xs->Ty≠46->Ty≠65->∀k,v.ownBlock=O k->¬G3 x k:=λhr e1 e2 k d=>by
  obtain⟨aL,g,_⟩:=C7 hr d;exact n1 _ _ g (λc fr e=>by injection e with _ e;exact e1 e) (λc fr e=>by injection e with _ e;exact e2 e)
 obtain⟨es,cl,ao⟩:=h.cls.au
 have s:∀k y,T.js[k]?=O y->k≠i->Bj w' y.1 y.2/\Ca w' y.2:=λk y q d=>by
  have aA:=h.apart q hx d;have z:=Ai q;refine⟨hm.au (h.box y z) λc=>?_,Bd (h.ok y z).parts hm λb t c=>?_⟩
  .rcases c with c|c
   .exact aA.1 c
   .obtain ⟨c',g⟩:=h.tp u c;have:=h.box y z;rw[Bj,g]at this;injection this with this;injection this with _ this;exact absurd this ad9
  .rcases c with rfl|c
   .obtain ⟨c',g⟩:=h.tp z t;rw[av]at g;injection g with g;injection g with _ g;exact absurd g ad9
   .exact aA.2 b t c
 have aD:∀y,y∈(T.cg i j).js->y=j\/∃k,T.js[k]?=O y/\k≠i:=λy q=>by
  obtain⟨k,d⟩:=B4 q;have f:(T.js.set i j)[k]?=O y:=d;rw[D3]at f;split at f
  .split at f
   .injection f with f;exact .inl f.symm
   .cases f
  .rename_i p;exact .inr ⟨k,f,λe=>p e.symm⟩
 refine⟨hm.au h.head (n1 _ _ h.head (λc fr e=>by injection e with _ e;exact absurd e ad9) (λc fr e=>by injection e with _ e;exact absurd e ad9)),
  h.cls.mod hm (n1 _ _ ao (λc fr e=>by cases e) (λc fr e=>by cases e)),Bd h.nodes hm (r h.nodes ad9 ad9),?_,Bd h.az hm (r h.az ad9 ad9),?_,?_,?_,?_,h.dt.mod an ?_,h.same⟩
 .have e:((T.cg i j).js.map λj=>Value.pointer (O ⟨j.1,0,I⟩))=T.js.map λj=>Value.pointer (O ⟨j.1,0,I⟩):=by
   show(T.js.set i j).map _=_;rw[Nx];apply Eh;intro k;rw[D3];split
   .rename_i ac;subst ac;obtain⟨hl,al⟩:=An.1 hx;simp[hl,al,hb]
   .rfl
  have e2:(T.cg i j).js.length=T.js.length:=Dy;rw[e,e2];exact Bd h.ab hm (r h.ab ad9 ad9)
 .intro y q;rcases aD y q with rfl|⟨k,d,p⟩
  .exact am
  .exact (s k y d p).1
 .intro y q;rcases aD y q with rfl|⟨k,d,p⟩
  .exact ⟨ha,aG,hg,aI,hp,hu,aK⟩
  .exact (h.ok y (Ai d)).mod an ap (s k y d p).2
 .have e:(T.cg i j).js.map Prod.fst=T.js.map Prod.fst:=by
   show(T.js.set i j).map _=_;rw[Nx];apply Eh;intro k;rw[D3];split
   .rename_i ac;subst ac;obtain⟨hl,al⟩:=An.1 hx;simp[hl,al,hb]
   .rfl
  rw[e];exact h.one
 .show (T.js.set i j).Pairwise _
  have aC:∀k y,T.js[k]?=O y->k≠i->∀b,(y.2.pb=O b->j.2.pb≠O b):=λk y q d b aB aJ=>by
   rcases ad b aJ with c|c
   .exact (h.apart q hx d).2 b aB c
   .obtain ⟨c',g⟩:=h.tp (Ai q) aB;have:=Ab g;omega
  refine L1.2 λa b aF t aH=>?_;have m:=A3 aF;have l:=A3 t;generalize (T.js.set i j)[a]=ya at m ⊢;generalize (T.js.set i j)[b]=yb at l ⊢;rw[D3]at m l;by_cases h1:i=a
  .subst h1;have h2:i≠b:=ao9;rw[Ac h2]at l;simp only[L3]at m;split at m
   .injection m with m;subst m;exact λc h1 aE=>aC b yb l (λe=>h2 e.symm) c aE h1
   .cases m
  .rw [Ac h1]at m;by_cases h2:i=b
   .subst h2;simp only[L3]at l;split at l
    .injection l with l;subst l;exact λc=>aC a ya m (λe=>h1 e.symm) c
    .cases l
   .rw [Ac h2]at l;exact Gm h.two m l aH
 .intro k c;rcases Sr hx hb c with c|c
  .exact .inl c
  .rcases ad k c with c|c
   .exact .inl (hJ k (.inr c))
   .exact .inr c
end
section
open Go.RowKit Go.Maps Go.Lib
def Aso {w:WD} {b:Nat} {x:aj} (g:Bj w b x):CS prog 180 #[K (O ⟨b,0,I⟩)] w λe w'=>e=Y (Q x.pl.waits)/\w'=w:=by
 have y:=Bk g 14 (Z G x.pl.lf.st) rfl;obtain⟨s,f⟩:=Ex (x.pl.lf.st);have d:x.pl.waits=dz s:=by rw[f];rfl
 rw[<-f]at y;replace⟨g,f,d⟩:=H3 g f d;by_cases a:s=1
 .have h:=Mw.2 a;have c:dz s=true:=by unfold dz;simp[a]
  replace⟨a,c⟩:=H2 a c;go_enter func180,ntmps180;go_wp2;go_ret;exact⟨by rw[d.out,c.out];rfl,rfl⟩
 .have h:=Br.2 a;by_cases b:s=2
  .have i:=Mw.2 b;have c:dz s=true:=(by unfold dz;simp[b]);replace⟨a,b,c⟩:=H3 a b c;go_enter func180,ntmps180;go_wp2;go_ret;exact⟨by rw[d.out,c.out];rfl,rfl⟩
  .have i:=Br.2 b;have c:dz s=false:=(by unfold dz;simp[a,b]);replace⟨a,b,c⟩:=H3 a b c;go_enter func180,ntmps180;go_wp2;go_ret;exact⟨by rw[d.out,c.out];rfl,rfl⟩
abbrev Kb (b:Nat) (w w':WD):Prop:=Mod (λk=>k=b) w w'
def Ym {w:WD} {b:Nat} {x:aj} (c:Bj w b x):CS prog 138 #[K (O ⟨b,0,I⟩)] w λe w'=>e=Y (.tuple #[])/\Bj w' b x.bare/\Kb b w w':=by
 have g:∃v,w.cell? ⟨b,19,I⟩=O v:=⟨_,Aa c 19⟩;have h:∃v,w.cell? ⟨b,20,I⟩=O v:=⟨_,Aa c 20⟩;obtain⟨j,g⟩:=g;obtain⟨l,h⟩:=h;have i:=Ag c;have a:=Ap (Ap c 19 (Z G (-1))) 20 (V I 0 0);have d:Bj ((w.setCell ⟨b,19,I⟩ (Z G (-1))).setCell ⟨b,20,I⟩ (V I 0 0)) b x.bare:=by unfold Bj;rw[a];simp[aj.bare,Jb.bare]
 have f:Kb b w ((w.setCell ⟨b,19,I⟩ (Z G (-1))).setCell ⟨b,20,I⟩ (V I 0 0)):=((Mod.refl (λk=>k=b) w).set b 19 _ rfl).set b 20 _ rfl;replace⟨c,a,d,f⟩:=H4 c a d f;go_enter func138,ntmps138;go_wp2;go_end0;exact⟨rfl,d.out,f.out⟩
def S4 {w:WD} {b:Nat} {x:aj} (g:Bj w b x) (s:Int) (v:1<=s/\s<=8):CS prog 139 #[K (O ⟨b,0,I⟩),Z G s] w λe w'=>e=Y (.tuple #[])/\Bj w' b (x.bm (Ay x.pl.lf s).1)/\Kb b w w':=by
 obtain⟨l,t⟩:=Ex ((Ay x.pl.lf s).1);obtain⟨er,o⟩:=Ex ((Ay x.pl.lf s).2);have q:=Ahp x.pl.lf s w v;rw[<-t,<-o]at q;rw[<-t];clear t o;obtain⟨⟨id,sp,⟨st,u,left,m,j⟩,start,ah,parts⟩,so,sn,sc,go_,gn,gc,po,pn,pc⟩:=x;obtain⟨p,i,c,f,d⟩:=l;have y:=Bk g 14 (Z G st) rfl;have z:=Bk g 15 (Z G u) rfl;have ac:=Bk g 16 (Z G left) rfl;have ad:=Bk g 17 (Q m) rfl;have al:=Bk g 18 (Q j) rfl;replace⟨q,g⟩:=H2 q g;go_enter func139,ntmps139;go_wp2_with fail;refine q.mono ?_;rintro e w1 ⟨rfl,h⟩;have a:=Ae h g.out (Ab g.out);have f1:=Ag a;have am:=Bk a 14 (Z G st) rfl;have an:=Bk a 15 (Z G u) rfl;have ao:=Bk a 16 (Z G left) rfl;have ap:=Bk a 17 (Q m) rfl;have av:=Bk a 18 (Q j) rfl;have n:=Ap (Ap (Ap (Ap (Ap a 14 (Z G p)) 15 (Z G i)) 16 (Z G c)) 17 (Q f)) 18 (Q d)
 have r:Kb b w (((((w1.setCell ⟨b,14,I⟩ (Z G p)).setCell ⟨b,15,I⟩ (Z G i)).setCell ⟨b,16,I⟩ (Z G c)).setCell ⟨b,17,I⟩ (Q f)).setCell ⟨b,18,I⟩ (Q d)):=
  ((((((Mod.af (S:=λk=>k=b) h).set b 14 _ rfl).set b 15 _ rfl).set b 16 _ rfl).set b 17 _ rfl).set b 18 _ rfl)
 replace⟨a,n,r,h⟩:=H4 a n r h;go_wp2;go_end0;refine⟨rfl,?_,r.out⟩;unfold Bj;rw[n.out];simp[aj.bm]
def Yn {a b:Bool} (h:a=b):Ending.returned (Q a)=Y (Q b):=by rw[h]
def Ahq (b:Bool) (w:WD) (e:Ending) (w':WD):Prop:=∃r:Int,e=Y (Z G r)/\(0<=r↔b=true)/\BW w.heap.size w w'
def Asp (F:FuncId) (z:Array VL) (p:Int->Bool) (so:Option Addr) (n c:Nat) (xs:List Int) (w:WD) (h:At w so n xs)
  (hF:∀args w,(callFunc F args).run prog w=.ok (.enter F args) w)
  (H:∀x,x∈xs->∀w1,BW w.heap.size w w1->CS prog F (#[Z G x]++z) w1 λe w2=>e=Y (Q (p x))/\BW w1.heap.size w1 w2) :
  CS prog 272 #[V so n c,.func (.func F) #[] z] w (Ahq (xs.any p) w):=by
 have g:=h.len;have ac:=h.max;replace⟨h,g,H⟩:=H3 h g H;go_enter func272,ntmps272;go_wp2;go_loopw [5,8] (λ_ i wr=>∃k:Nat,i=Z G k/\k<=n/\Hid (∀j x,j<k->xs[j]?=O x->p x=false)/\Hid (BW w.heap.size w wr)) (λ_ i _=>n-(intOf i).toNat)
 case atStart=>exact⟨0,rfl,As _,(λj x h=>by omega),Below.refl _ _⟩
 case round=>
  obtain⟨k,rfl,hk,l,d⟩:=hrel;by_cases hc:k<n
  .have u:(k:Int)<n:=ao9;have ad:(0:Int)<=(k:Int):=ao9;obtain⟨y,r⟩:=h.get hc;obtain⟨b,al,rfl,hb,a0⟩:=(h.low d.out).cell k y r;have f:=H y (Ai r) wr d.out;replace⟨f,r⟩:=H2 f r;obtain⟨q,t⟩:=Ex (p y);go_wp2_with fail;refine f.mono ?_;rintro e w2 ⟨rfl,m⟩;have a:=d.trans (m.mono d.size);rw[<-t];replace⟨a,m,t⟩:=H3 a m t
   cases q with
   | true=>
    have o:=Kl.2 ⟨y,Ai r.out,t.symm⟩;replace o:=Hh o;go_wp2;go_ret;exact⟨k,rfl,⟨λ_=>o.out,λ_=>by omega⟩,a.out⟩
   | false=>
    have v:∀j x,j<k+1->xs[j]?=O x->p x=false:=λj x hj e=>by
     by_cases c:j=k
     .subst c;have:=r.out;rw[e]at this;injection this with this;rw[this];exact t.symm
     .exact l.out j x ao9 e
    replace v:=Hh v;go_wp2;go_roundw
    case rel=>exact⟨k+1,by go_num,ao9,v.out,a.out⟩
    case measure=>simp[intOf];omega
  .have u:¬(k:Int)<n:=ao9;have o:xs.any p=false:=(by rw[Iu];intro c;obtain⟨x,hx,s⟩:=Kl.1 c;obtain⟨j,hj,e⟩:=Ol.1 hx;have hl:=g.out;rw[l j x ao9 (by rw[A3 hj,e])]at s;cases s);replace o:=Hh o;go_wp2;go_ret;exact⟨-1,rfl,⟨λh=>by omega,λh=>by rw[o.out]at h;cases h⟩,d.out⟩
def Ahr (F:FuncId) (g:Array VL) (p:Int->Bool) (so:Option Addr) (n c:Nat) (xs:List Int) (w:WD) (h:At w so n xs)
  (hF:∀args w,(callFunc F args).run prog w=.ok (.enter F args) w)
  (H:∀x,x∈xs->∀w1,BW w.heap.size w w1->CS prog F (#[Z G x]++g) w1 λe j=>e=Y (Q (p x))/\BW w1.heap.size w1 j) :
  CS prog 231 #[V so n c,.func (.func F) #[] g] w λe w'=>e=Y (Q (xs.any p))/\BW w.heap.size w w':=by
 have f:=Asp F g p so n c xs w h hF H;obtain⟨q,i⟩:=Ex (xs.any p);rw[<-i]at f;rw[<-i];clear i;replace⟨f,H,h⟩:=H3 f H h;go_enter func231,ntmps231;go_wp2_with fail;refine f.mono ?_;rintro e j ⟨r,rfl,b,a⟩
 cases q with
 | true=>
  have d:=b.2 rfl;replace⟨b,a⟩:=H2 b a;go_wp2;go_ret;exact⟨Yn as9,a.out⟩
 | false=>
  have d:¬(0:Int)<=r:=λh=>by cases b.1 h
  replace⟨b,a⟩:=H2 b a;go_wp2;go_ret;exact⟨Yn (by simpa using d),a.out⟩
structure N6 (w:WD) (so:Option Addr) (n:Nat) (xs:List (Int×Int)):Prop where
 len:xs.length=n
 max:n<=9223372036854775807
 cell:∀i x,xs[i]?=O x->∃b,so=O ⟨b,0,I⟩/\b<w.heap.size/\w.cell? ⟨b,i*2,I⟩=O (Z G x.1)/\w.cell? ⟨b,i*2+1,I⟩=O (Z G x.2)
def N6.low {w w':WD} {so:Option Addr} {n:Nat} {xs:List (Int×Int)} (h:N6 w so n xs) (c:BW w.heap.size w w'):N6 w' so n xs:=
 ⟨h.len,h.max,λi x d=>by
  obtain⟨b,e,a,h0,h1⟩:=h.cell i x d
  exact⟨b,e,Bq a c.size,(Af c a).trans h0,(Af c a).trans h1⟩⟩
def N6.get {w:WD} {so:Option Addr} {n:Nat} {xs:List (Int×Int)} (h:N6 w so n xs) {i:Nat} (a:i<n):=Ge xs i (by rw[h.len];exact a)
def N6.wh {w:WD} {so:Option Addr} {n:Nat} {xs:List (Int×Int)} (h:N6 w so n xs) {i:Nat} {x:Int×Int} (a:xs[i]?=O x):∃b,so=O ⟨b,0,I⟩/\w.cell? ⟨b,i*2,I⟩=O (Z G x.1)/\w.cell? ⟨b,i*2+1,I⟩=O (Z G x.2):=by
 obtain⟨b,e,_,h0,h1⟩:=h.cell i x a;exact⟨b,e,h0,h1⟩
def Asq (F:FuncId) (z:Array VL) (p:Int×Int->Bool) (so:Option Addr) (n c:Nat) (xs:List (Int×Int)) (w:WD) (h:N6 w so n xs)
  (hF:∀args w,(callFunc F args).run prog w=.ok (.enter F args) w)
  (H:∀x,x∈xs->∀w1,BW w.heap.size w w1->CS prog F (#[.agg #[Z G x.1,Z G x.2]]++z) w1 λe w2=>e=Y (Q (p x))/\BW w1.heap.size w1 w2) :
  CS prog 233 #[V so n c,.func (.func F) #[] z] w (Ahq (xs.any p) w):=by
 have g:=h.len;have ac:=h.max;replace⟨h,g,H⟩:=H3 h g H;go_enter func233,ntmps233;go_wp2;go_loopw [5,8] (λ_ i wr=>∃k:Nat,i=Z G k/\k<=n/\Hid (∀j x,j<k->xs[j]?=O x->p x=false)/\Hid (BW w.heap.size w wr)) (λ_ i _=>n-(intOf i).toNat)
 case atStart=>exact⟨0,rfl,As _,(λj x h=>by omega),Below.refl _ _⟩
 case round=>
  obtain⟨k,rfl,hk,l,d⟩:=hrel;by_cases hc:k<n
  .have u:(k:Int)<n:=ao9;have ad:(0:Int)<=(k:Int):=ao9;obtain⟨y,r⟩:=h.get hc;obtain⟨b,rfl,a0,a1⟩:=(h.low d.out).wh r;have f:=H y (Ai r) wr d.out;replace⟨f,r⟩:=H2 f r;obtain⟨q,t⟩:=Ex (p y);go_wp2_with fail;refine f.mono ?_;rintro e w2 ⟨rfl,m⟩;have a:=d.trans (m.mono d.size);rw[<-t];replace⟨a,m,t⟩:=H3 a m t
   cases q with
   | true=>
    have o:=Kl.2 ⟨y,Ai r.out,t.symm⟩;replace o:=Hh o;go_wp2;go_ret;exact⟨k,rfl,⟨λ_=>o.out,λ_=>by omega⟩,a.out⟩
   | false=>
    have v:∀j x,j<k+1->xs[j]?=O x->p x=false:=λj x hj e=>by
     by_cases c:j=k
     .subst c;have:=r.out;rw[e]at this;injection this with this;rw[this];exact t.symm
     .exact l.out j x ao9 e
    replace v:=Hh v;go_wp2;go_roundw
    case rel=>exact⟨k+1,by go_num,ao9,v.out,a.out⟩
    case measure=>simp[intOf];omega
  .have u:¬(k:Int)<n:=ao9;have o:xs.any p=false:=(by rw[Iu];intro c;obtain⟨x,hx,s⟩:=Kl.1 c;obtain⟨j,hj,e⟩:=Ol.1 hx;have hl:=g.out;rw[l j x ao9 (by rw[A3 hj,e])]at s;cases s);replace o:=Hh o;go_wp2;go_ret;exact⟨-1,rfl,⟨λh=>by omega,λh=>by rw[o.out]at h;cases h⟩,d.out⟩
def Asr (F:FuncId) (g:Array VL) (p:Int×Int->Bool) (so:Option Addr) (n c:Nat) (xs:List (Int×Int)) (w:WD) (h:N6 w so n xs)
  (hF:∀args w,(callFunc F args).run prog w=.ok (.enter F args) w)
  (H:∀x,x∈xs->∀w1,BW w.heap.size w w1->CS prog F (#[.agg #[Z G x.1,Z G x.2]]++g) w1 λe j=>e=Y (Q (p x))/\BW w1.heap.size w1 j) :
  CS prog 182 #[V so n c,.func (.func F) #[] g] w λe w'=>e=Y (Q (xs.any p))/\BW w.heap.size w w':=by
 have f:=Asq F g p so n c xs w h hF H;obtain⟨q,i⟩:=Ex (xs.any p);rw[<-i]at f;rw[<-i];clear i;replace⟨f,H,h⟩:=H3 f H h;go_enter func182,ntmps182;go_wp2_with fail;refine f.mono ?_;rintro e j ⟨r,rfl,b,a⟩
 cases q with
 | true=>
  have d:=b.2 rfl;replace⟨b,a⟩:=H2 b a;go_wp2;go_ret;exact⟨Yn as9,a.out⟩
 | false=>
  have d:¬(0:Int)<=r:=λh=>by cases b.1 h
  replace⟨b,a⟩:=H2 b a;go_wp2;go_ret;exact⟨Yn (by simpa using d),a.out⟩
def Ao.l7 {w:WD} {T:Tv} (h:Ao w T) {k:Nat} {j:Nat×aj} (f:T.js[k]?=O j):∃g cap,w.cell? ⟨T.tb,4,I⟩=O (V (O ⟨g,0,I⟩) T.js.length cap)/\w.cell? ⟨g,k,I⟩=O (K (O ⟨j.1,0,I⟩))/\T.js.length<=cap/\T.jv=V (O ⟨g,0,I⟩) T.js.length cap:=by
 have n:=(An.1 f).1;obtain⟨g,cap,e⟩:=Joins.ownsRow_form h.ab ao9;have c:=h.ab;rw[e]at c;have l:=F0 c k ao9;refine⟨g,cap,?_,?_,?_,e⟩
 .rw [Aa h.head 4,<-e];rfl
 .rw [l];simp[f]
 .rcases c.2 with⟨a,_⟩|⟨m,d,i,a,_,_,b,_⟩
  .simp at a
  .simp at a;rw[a.2];exact b
def Ass:∀args w,(callFunc 232 args).run prog w=.ok (.enter 232 args) w:=J2 func232 ad9 (by simp[f232])
def Yo (s:Int):Bool:=ia s && decide (s≠5)
def Ahs {T:Tv} {k:Nat} {j:Nat×aj} (a:T.js[k]?=O j):I1 T.pl.ab ((k:Int)+1)=j.2.pl.lf.st:=by
 unfold I1 Tv.pl;have e:((k:Int)+1-1).toNat=k:=ao9
 rw[e];simp[a]
def Ast {w:WD} {T:Tv} (h:Ao w T) (r:Nat) (l:w.cell? ⟨r,0,I⟩=O (K (O ⟨T.tb,0,I⟩))) (k:Nat) (v:k<T.js.length) :
  CS prog 232 (#[Z G ((k:Int)+1)]++#[K (O ⟨r,0,I⟩)]) w λe w'=>e=Y (Q (Yo (I1 T.pl.ab ((k:Int)+1))))/\w'=w:=by
 obtain⟨j,i⟩:=Ge T.js k v;rw[Ahs i];obtain⟨g,cap,t,cj,am,_⟩:=h.l7 i;obtain⟨tb,z⟩:=Ex (T.tb);obtain⟨jb,b⟩:=Ex (j.1);obtain⟨m,x⟩:=Ex (T.js.length);obtain⟨s,p⟩:=Ex (j.2.pl.lf.st);have cs:w.cell? ⟨j.1,14,I⟩=O (Z G j.2.pl.lf.st):=Aa (h.box j (Ai i)) 14
 have y:m<=9223372036854775807:=by
  rcases h.ab.2 with⟨_,e2⟩|⟨g',u,ac,e2,_,_,h1,h2,_⟩
  .omega
  .unfold maxLen at h2;omega
 rw[<-b,<-p]at cs;rw[<-z]at t l;rw[<-x]at t v;rw[<-b]at cj;rw[<-p];have al:(k:Int)<m:=ao9
 have ad:(0:Int)<=(k:Int):=ao9
 have f:=Ab7 s w;obtain⟨o,n⟩:=Ex (ia s);have c:Yo s=(o && decide (s≠5)):=by rw[n];rfl
 rw[<-n]at f;clear z b x p n h i;replace⟨f,c⟩:=H2 f c;go_enter func232,ntmps232;go_wp2_with fail;refine(f.out).mono ?_;rintro e w' ⟨rfl,rfl⟩
 cases o with
 | false=>
  go_wp2;go_ret;exact⟨by rw[c.out];rfl,rfl⟩
 | true=>
  by_cases q:s=5
  .have d:(s != (5:Int))=false:=(by rw[q];rfl);have a:decide (s≠5)=false:=(by simp[q]);rw[a]at c;replace⟨q,a⟩:=H2 q a;go_wp2;go_ret;exact⟨by rw[c.out];rfl,rfl⟩
  .have d:(s != (5:Int))=true:=(by rw[Gh];exact q);have a:decide (s≠5)=true:=(by simp[q]);rw[a]at c;replace⟨q,a⟩:=H2 q a;go_wp2;go_ret;exact⟨by rw[c.out];rfl,rfl⟩
def Asu {w:WD} {T:Tv} (h:Ao w T) {i:Nat} {j:Nat×aj} (hj:T.js[i]?=O j) (hr:∀d,d∈j.2.pl.sp.after->1<=d/\d<=(T.js.length:Int)) :
  CS prog 181 #[K (O ⟨T.tb,0,I⟩),K (O ⟨j.1,0,I⟩)] w λe w'=>e=Y (Q (Sp T.pl.ab j.2.pl))/\BW w.heap.size w w':=by
 have f:=Ai hj;have cs:=Bk (h.box j f) 13 (V j.2.so j.2.sn j.2.sc) rfl;have ak:=(h.ok j f).after.row;obtain⟨v,b⟩:=Ex (w.alloc (J #[K (O ⟨T.tb,0,I⟩)] 27 (0,0)));have a:BW w.heap.size w v:=by rw[b];exact Bn
 have t:v.cell? ⟨w.heap.size,0,I⟩=O (K (O ⟨T.tb,0,I⟩)):=by rw[b];exact Aa (Ah _ _) 0
 have o:w.heap.size<v.heap.size:=by rw[b];simp
 have g:=(Af a (Ab (h.box j f))).trans cs
 have l:=Ahr 232 #[K (O ⟨w.heap.size,0,I⟩)] (λd=>Yo (I1 T.pl.ab d)) j.2.so j.2.sn j.2.sc j.2.pl.sp.after v (ak.low a) Ass (λd y w1 n=>by
  obtain⟨h1,h2⟩:=hr d y;obtain⟨k,rfl⟩:∃k:Nat,d=(k:Int)+1:=⟨(d-1).toNat,ao9⟩
  exact(Ast ((h.low a).low n) w.heap.size ((Af n o).trans t) k ao9).mono λe w' ⟨he,hw⟩=>⟨he,by rw[hw];exact Below.refl _ _⟩)
 have hz:Sp T.pl.ab j.2.pl=(j.2.pl.sp.after.any λd=>Yo (I1 T.pl.ab d)):=rfl;rw[<-hz]at l;obtain⟨q,z⟩:=Ex (Sp T.pl.ab j.2.pl);rw[<-z]at l;rw[<-z];obtain⟨tb,u⟩:=Ex (T.tb);obtain⟨jb,m⟩:=Ex (j.1);obtain⟨so,s⟩:=Ex (j.2.so);obtain⟨sn,r⟩:=Ex (j.2.sn);obtain⟨sc,p⟩:=Ex (j.2.sc);rw[<-s,<-r,<-p]at l g;rw[<-m]at g;rw[b,<-u]at l;rw[b,<-u]at a g;rw[<-u,<-m];clear z hz ak cs t o b s r p m u h hj hr f;replace⟨l,a⟩:=H2 l a;go_enter func181,ntmps181;go_wp2_with fail;refine(l.out).mono ?_;rintro e w' ⟨rfl,x⟩;have c:=a.trans (x.mono a.size);replace⟨c,x⟩:=H2 c x;go_wp2;go_ret;exact⟨rfl,c.out⟩
structure I4 (x y:aj):Prop where
 so:y.so=x.so
 sn:y.sn=x.sn
 sc:y.sc=x.sc
 after:y.pl.sp.after=x.pl.sp.after
 user:y.pl.sp.user=x.pl.sp.user
 part:y.pl.sp.part=x.pl.sp.part
 ah:(y.go=x.go/\y.gn=x.gn/\y.gc=x.gc/\y.pl.ah=x.pl.ah)\/(y.go=I/\y.gn=0/\y.pl.ah=[])
 pb:∀b,y.pb=O b->x.pb=O b
def I4.refl (x:aj):I4 x x:=⟨rfl,rfl,rfl,rfl,rfl,rfl,.inl ⟨rfl,rfl,rfl,rfl⟩,λ_ h=>h⟩
def I4.trans {x y z:aj} (h:I4 x y) (k:I4 y z):I4 x z:=
 ⟨k.so.trans h.so,k.sn.trans h.sn,k.sc.trans h.sc,k.after.trans h.after,k.user.trans h.user,k.part.trans h.part,by
  rcases k.ah with⟨a,b,c,d⟩|c
  .rcases h.ah with⟨f,g,j,i⟩|⟨f,g,i⟩
   .exact .inl ⟨a.trans f,b.trans g,c.trans j,d.trans i⟩
   .exact .inr ⟨a.trans f,b.trans g,d.trans i⟩
  .exact .inr c,λb e=>h.pb b (k.pb b e)⟩
def Yp (x:aj) (l:Lf):I4 x (x.bm l):=⟨rfl,rfl,rfl,rfl,rfl,rfl,.inl ⟨rfl,rfl,rfl,rfl⟩,λ_ h=>h⟩
def Yq (x:aj):I4 x x.bare:=⟨rfl,rfl,rfl,rfl,rfl,rfl,.inr ⟨rfl,rfl,rfl⟩,λ_ h=>h⟩
variable {w w' wr:WD} {T:Tv}
def Ao.dv (h:Ao w T) {i b:Nat} {x y:aj} (n:T.js[i]?=O (b,x)) (q:Mod (G3 (b,x)) w w') (l:Bj w' b y) (s:Ca w' y) (d:I4 x y):Ao w' (T.cg i (b,y)):=by
 have a:=h.ok _ (Ai n)
 have f:∀k,k<w.heap.size->(T.cg i (b,y)).ax k->T.ax k:=λk _ c=>by
  rcases Sr (j:=(b,y)) n rfl c with c|c
  .exact c
  .exact .inr (.inr (.inr (.inr ⟨_,Ai n,.inr (d.pb k c)⟩)))
 have m:Mod T.ax w w':=q.mono λk _ c=>.inr (.inr (.inr (.inr ⟨_,Ai n,c.imp (λe=>e.symm) id⟩)));refine h.cg n rfl q l s (λk c=>.inl (d.pb k c)) ?_ ?_ ?_ ?_ ?_ ?_
 .have:=a.after.mod m f;show Eo w' _ y.so y.sn y.pl.sp.after;rw[d.so,d.sn,d.after];exact this
 .show y.sn<=y.sc;rw[d.sn,d.sc];exact a.om
 .show Eo w' _ y.go y.gn y.pl.ah;rcases d.ah with⟨o,g,_,p⟩|⟨o,g,p⟩
  .rw [o,g,p];exact a.ah.mod m f
  .rw [o,g,p];exact Ag5 _ _
 .show y.gn<=y.gc;rcases d.ah with⟨_,g,r,_⟩|⟨_,g,_⟩
  .rw [g,r];exact a.ou
  .rw [g];exact As _
 .show y.pl.sp.user.size<=maxLen;rw[d.user];exact a.user
 .show y.pl.sp.part.size<=maxLen;rw[d.part];exact a.part
structure B7 (w:WD) (T:Tv) (js:List (Nat×aj)) (wr:WD):Prop where
 at_:Ao wr { T with js:=js }
 au:js.map Prod.fst=T.js.map Prod.fst
 ax:∀b,({ T with js:=js }:Tv).ax b->T.ax b\/w.heap.size<=b
 mod:Mod T.ax w wr
 kp:∀(i:Nat) (x y:Nat×aj),T.js[i]?=O x->js[i]?=O y->I4 x.2 y.2
def B7.refl (h:Ao w T):B7 w T T.js w:=⟨h,rfl,λ_ c=>.inl c,Mod.refl _ _,λi x y b a=>by rw[b]at a;injection a with a;rw[a];exact I4.refl _⟩
def B7.low {js:List (Nat×aj)} (h:B7 w T js wr) (a:BW wr.heap.size wr w'):B7 w T js w':=⟨h.at_.low a,h.au,h.ax,h.mod.low a,h.kp⟩
def B7.len {js:List (Nat×aj)} (h:B7 w T js wr):js.length=T.js.length:=by
 have:=Cv List.length h.au;simpa using this
def B7.then {js d:List (Nat×aj)} (h:B7 w T js wr) (a:B7 wr { T with js:=js } d w'):B7 w T d w':=
 ⟨a.at_,a.au.trans h.au,λb c=>by
  rcases a.ax b c with c|c
  .exact h.ax b c
  .exact .inr (A8 h.mod.size c),h.mod.then a.mod λk l c=>by
  rcases h.ax k c with c|c
  .exact c
  .omega,λi x z e j=>by
  have g:i<js.length:=by rw[h.len];exact(An.1 e).1
  have f:=A3 g
  exact(h.kp i x _ e f).trans (a.kp i _ z f j)⟩
def Asv {js:List (Nat×aj)} {i b:Nat} {x y:aj} (e:js[i]?=O (b,x)):(js.set i (b,y)).map Prod.fst=js.map Prod.fst:=by
 rw[Nx];apply Eh;intro k;rw[D3];split
 .rename_i a;subst a;obtain⟨d,c⟩:=An.1 e;simp[d,c]
 .rfl
def B7.dv {js:List (Nat×aj)} (h:B7 w T js wr) {i b:Nat} {x y:aj} (f:js[i]?=O (b,x)) (m:Mod (G3 (b,x)) wr w') (d:Bj w' b y) (p:Ca w' y) (g:I4 x y):B7 w T (js.set i (b,y)) w':=by
 have l:∀k,G3 (b,x) k->({ T with js:=js }:Tv).ax k:=λk c=>.inr (.inr (.inr (.inr ⟨_,Ai f,c.imp (λe=>e.symm) id⟩)));refine⟨h.at_.dv (T:={ T with js:=js }) f m d p g,(Asv f).trans h.au,λk c=>?_,h.mod.then m λk o c=>?_,λk z q n a=>?_⟩
 .rcases Sr (T:={ T with js:=js }) (j:=(b,y)) f rfl c with c|c
  .exact h.ax k c
  .exact h.ax k (l k (.inr (g.pb k c)))
 .rcases h.ax k (l k c)with c|c
  .exact c
  .omega
 .rw [D3]at a;split at a
  .rename_i e;subst e;split at a
   .injection a with a;subst a;exact(h.kp i z _ n f).trans g
   .cases a
  .exact h.kp k z q n a
def U2 {b:Nat} {x:aj} (d:Bj w b x) (a:Ca w x) (f:Mod (λk=>k=b) w w'):Ca w' x:=
 Bd a f λk e c=>by
  subst c;exact Bv a d ad9 e
def P7 {b:Nat} {x:aj} (h:Mod (λk=>k=b) w w'):Mod (G3 (b,x)) w w':=h.mono λ_ _ c=>.inl c
def B7.get {js:List (Nat×aj)} (h:B7 w T js wr) {i:Nat} {j:Nat×aj} (a:js[i]?=O j):Bj wr j.1 j.2/\O2 wr ({ T with js:=js }:Tv).ax j.2:=⟨h.at_.box j (Ai a),h.at_.ok j (Ai a)⟩
def B7.uz {js:List (Nat×aj)} (h:B7 w T js wr) {i b:Nat} {x y:aj} (e:js[i]?=O (b,x)) (d:Mod (λk=>k=b) wr w') (a:Bj w' b y) (n:I4 x y) (c:y.po=x.po/\y.pn=x.pn/\y.pc=x.pc/\y.pl.parts=x.pl.parts):B7 w T (js.set i (b,y)) w':=by
 obtain⟨h1,m⟩:=h.get e;refine h.dv e (P7 d) a ?_ n;have:=U2 h1 m.parts d;obtain⟨f,g,j,l⟩:=c;unfold Ca at *;rw[f,g,j,l];exact this
def Ao.off (h:Ao w T) {b:Nat} {c:Array VL} {a:TypeId} (d:w.heap[b]?=O (J c a (0,0))) (h1:a≠115) (i:a≠119) (k:a≠125) (l:a≠46) (m:a≠65):¬T.ax b:=λc=>by
 rcases c with e|e|e|e|⟨j,g,e|e⟩
 .have:=h.head;rw[<-e,d]at this;injection this with this;injection this with _ this;exact h1 this
 .obtain ⟨o,n,f⟩:=h.cls.au;rw[<-e,d]at f;injection f with f;cases f
 .exact Bv h.nodes d i.symm e
 .exact Bv h.ab d k.symm e
 .have:=h.box j g;rw[Bj,e,d]at this;injection this with this;injection this with _ this;exact l this
 .exact Bv (h.ok j g).parts d m.symm e
def Eo.other {S:Nat->Prop} {so:Option Addr} {n b:Nat} {l:List Int} (h:Eo w S so n l) (d:Mod (λk=>k=b) w w') (j:0<n->∀k o,so=O ⟨k,o,I⟩->k≠b):Eo w' S so n l:=
 ⟨⟨h.row.len,h.row.max,λi x f=>by
  obtain⟨k,c,e,a,g⟩:=h.row.cell i x f;have m:=(An.1 f).1;refine⟨k,c,e,Bq a d.size,?_⟩;rw[<-g]
  simp only[World.cell?,d.block k a (j (by have:=h.row.len;omega) k c e)]⟩,h.off⟩
def Ao.gl (h:Ao w T) {b:Nat} {c:Array VL} {d:TypeId} (p:w.heap[b]?=O (J c d (0,0))) (a:Mod (λk=>k=b) w w') (y:T.tb<b) (h1:d≠115) (r:d≠119) (s:d≠125) (t:d≠46) (u:d≠65) (v:d≠30)
  (f:∀j,j∈T.js->(0<j.2.sn->∀k o,j.2.so=O ⟨k,o,I⟩->k≠b)/\(0<j.2.gn->∀k o,j.2.go=O ⟨k,o,I⟩->k≠b)):Ao w' T:=by
 have x:=h.off p h1 r s t u;have i:∀k,T.ax k->k≠b:=λk c e=>x (e▸c)
 refine⟨a.au h.head (i _ (.inl rfl)),h.cls.mod a (i _ (.inr (.inl rfl))),Bd h.nodes a (λk e=>i k (.inr (.inr (.inl e)))),Bd h.ab a (λk e=>i k (.inr (.inr (.inr (.inl e))))),
  Bd h.az a (λk e c=>?_),λj l=>a.au (h.box j l) (i _ (.inr (.inr (.inr (.inr ⟨j,l,.inl rfl⟩))))),λj l=>?_,h.one,h.two,?_,h.same⟩
 .subst c;exact Bv h.az p v.symm e
 .have g:=h.ok j l;obtain⟨z,n2⟩:=f j l;exact⟨g.after.other a z,g.om,g.ah.other a n2,g.ou,Bd g.parts a (λk e=>i k (.inr (.inr (.inr (.inr ⟨j,l,.inr e⟩))))),g.user,g.part⟩
 .obtain ⟨w0,q,m,n⟩:=h.dt.ex;have:=n _ (.inl rfl);exact⟨⟨w0,q,m.trans (a.below m.size λk e=>by omega),n⟩,h.dt.ok⟩
def Mc {so:Option Addr} {n k o:Nat} {l:List Int} (h:At w so n l) (h0:0<n) (e:so=O ⟨k,o,I⟩):k<w.heap.size:=by
 obtain⟨x,d⟩:=h.get (i:=0) h0;obtain⟨f,c,b,a,_⟩:=h.cell 0 x d;rw[e]at b;cases b;exact a
def B7.gl {js:List (Nat×aj)} (h:B7 w T js wr) (h0:Ao w T) {b:Nat} {c:Array VL} {a:TypeId} (y:wr.heap[b]?=O (J c a (0,0))) (p:Mod (λk=>k=b) wr w') (g:w.heap.size<=b) (h1:a≠115) (s:a≠119) (t:a≠125) (u:a≠46) (v:a≠65) (x:a≠30):B7 w T js w':=by
 refine⟨h.at_.gl y p (Bq (Ab h0.head) g) h1 s t u v x λj z=>?_,h.au,h.ax,h.mod.then p (λk f e=>by omega),h.kp⟩;obtain⟨i,n⟩:=B4 z;have hl:i<T.js.length:=by rw[<-h.len];exact(An.1 n).1
 have r:=A3 hl;have f:=h.kp i _ j r n;have q:=h0.ok _ (Ai r);refine⟨λd k o e=>?_,λd k o e=>?_⟩
 .rw [f.sn]at d;rw[f.so]at e;have:=Mc q.after.row d e;omega
 .rcases f.ah with⟨l,m,_⟩|⟨l,m,_⟩
  .rw [m]at d;rw[l]at e;have:=Mc q.ah.row d e;omega
  .omega
def N7 (js:List (Nat×aj)) {i b:Nat} {x y:aj} (d:js[i]?=O (b,x)) {f:Jb->Jb} (g:y.pl=f x.pl):(js.set i (b,y)).map (λj=>j.2.pl)=(js.map λj=>j.2.pl).modify i f:=by
 apply Eh;intro k;rw[Dj];by_cases e:i=k
 .subst e;obtain⟨c,a⟩:=An.1 d;simp[c,a,g]
 .simp [e]
end
section
open Go.RowKit Go.Maps Go.Lib
def Ao.og {w:WD} {T:Tv} (h:Ao w T):∃so cap,T.jv=V so T.js.length cap/\T.js.length<=cap/\T.js.length<=9223372036854775807/\∀k j,T.js[k]?=O j->∃g,so=O ⟨g,0,I⟩/\w.cell? ⟨g,k,I⟩=O (K (O ⟨j.1,0,I⟩)):=by
 rcases h.ab.2 with⟨e,h0⟩|⟨g,cap,f,e,_,_,h1,i,_⟩
 .refine ⟨I,0,by rw[e,h0],ao9,ao9,λk j b=>?_⟩;have:=(An.1 b).1;omega
 .refine ⟨O ⟨g,0,I⟩,cap,e,h1,by unfold maxLen at i;omega,λk j b=>?_⟩;obtain⟨l,c,_,d,_,a⟩:=h.l7 b;rw[e]at a;simp at a;exact⟨g,rfl,by rw[a.1];exact d⟩
def Aca (w:WD) (bs:List Nat):Nat:=bs.countP λb=>match w.cell? ⟨b,14,I⟩with
 | some (Z _ s)=>dz s
 | _=>false
def Ahx {w:WD} {T:Tv} (h:Ao w T):Aca w (T.js.map Prod.fst)=Lg T.pl.ab:=by
 unfold Aca Lg Tv.pl;simp only;rw[List.countP_map,List.countP_map];apply List.countP_congr;intro j b;have a:=Bk (h.box j b) 14 (Z G j.2.pl.lf.st) rfl;simp[a,Jb.waits]
def Ahy (js:List Jb) (k:Nat):(E7 js k).map Jb.sp=js.map Jb.sp:=by
 unfold E7;split
 .apply Eh;intro i;simp only[A7,Dj]
  cases js[i]? with
  | none=>rfl
  | some j=>
   simp only[K9]
   split<;>rfl
 .rfl
def Ep (js:List Jb):Prop:=∀j,j∈js->∀id,id∈j.sp.after->1<=id/\id<=(js.length:Int)
def Rc {js a:List Jb} (h:Ep js) (e:a.map Jb.sp=js.map Jb.sp):Ep a:=λj f i b=>by
 have g:a.length=js.length:=by have:=Cv List.length e;simpa using this
 have:j.sp∈js.map Jb.sp:=e▸F1 f;obtain⟨k,d,c⟩:=A5.1 this;rw[g];exact h k d i (by rw[c];exact b)
def Lh (w:WD) (T:Tv) (X:List Jb) (e:Ending) (w':WD):Prop:=e=Y (.tuple #[])/\∃js,B7 w T js w'/\js.map (λj=>j.2.pl)=X
structure lg (w:WD) (T:Tv) (js:List (Nat×aj)) (X:List Jb) (wr:WD):Prop where
 tab:B7 w T js wr
 pl:js.map (λj=>j.2.pl)=X
 j5:Ep X
def lg.low {w:WD} {T:Tv} {js:List (Nat×aj)} {X:List Jb} {wr w':WD} (h:lg w T js X wr) (a:BW wr.heap.size wr w'):lg w T js X w':=⟨h.tab.low a,h.pl,h.j5⟩
def Acb (v:VL):Nat:=match v with
 | Q true=>1
 | _=>0
def Ys {w:WD} {T:Tv} (h:Ao w T) (ha:Ep T.pl.ab):CS prog 130 #[K (O ⟨T.tb,0,I⟩)] w (Lh w T (C2 T.pl.ab)):=by
 obtain⟨so,cap,ad,aV,aP,_⟩:=h.og;obtain⟨tb,ht⟩:=Ex (T.tb);obtain⟨m,hm⟩:=Ex (T.js.length);obtain⟨X0,x⟩:=Ex (T.pl.ab);have ap:lg w T T.js X0 w:=⟨B7.refl h,x.symm,by rw[x];exact ha⟩
 have z:∀(js:List (Nat×aj)) (X:List Jb) (W:WD),lg w T js X W->W.cell? ⟨tb,4,I⟩=O (V so m cap):=λjs X W hW=>by
  rw[ht,Aa hW.tab.at_.head 4,hm,<-ad];rfl
 have row:∀(js:List (Nat×aj)) (X:List Jb) (W:WD),lg w T js X W->∀k,k<m->∃g j,so=O ⟨g,0,I⟩/\js[k]?=O j/\W.cell? ⟨g,k,I⟩=O (K (O ⟨j.1,0,I⟩)):=λjs X W hW k hk=>by
  have hl:js.length=m:=by rw[hm];exact hW.tab.len
  obtain⟨j,hj⟩:=Ge js k ao9;obtain⟨aT,aN,e1,_,_,hr⟩:=hW.tab.at_.og;obtain⟨g,e2,hc⟩:=hr k j hj;have e3:T.jv=V aT js.length aN:=e1;rw[ad]at e3;injection e3 with e3 _ _;exact⟨g,j,e3.trans e2,hj,hc⟩
 rw[hm.symm]at aP;rw[<-ht,<-x];replace⟨h,ha,ad,x,ap,z,row,hm⟩:=H8 h ha ad x ap z row hm;replace ht:=Hh ht;go_enter func130,ntmps130;go_wp2;go_loopw [2,4,12] (λmv _ _ wr=>∃(mb:Bool) (js:List (Nat×aj)) (X:List Jb),mv=Q mb/\Hid (lg w T js X wr)/\Hid (C2 X0=if mb=true then C2 X else X)) (λmv _ _ wr=>Aca wr (T.js.map Prod.fst)+Acb mv)
 case atStart=>exact⟨true,T.js,X0,rfl,ap.out,rfl⟩
 case round=>
  rename WD=>wo
  obtain⟨mb,js,X,rfl,u,hF⟩:=hrel
  cases mb with
  | false=>
   have an:C2 X0=X:=hF.out;replace an:=Hh an;go_wp2;go_end0;exact⟨rfl,js,u.tab,u.pl.trans an.symm⟩
  | true=>
   have c4:=z _ _ _ u.out;have ac:lg w T js (Co X 0).1 wo:=u.out;replace ac:=Hh ac;go_wp2;clear c4;go_loopw [2,4,12] (λmv _ i wr=>∃(k:Nat) (a:List (Nat×aj)),i=Z G k/\k<=m/\mv=Q (Co X k).2/\Hid (lg w T a (Co X k).1 wr)) (λ_ _ i _=>m-(intOf i).toNat)
   case atStart=>exact⟨0,js,rfl,As _,rfl,ac.out⟩
   case round=>
    obtain⟨k,a,rfl,hk,rfl,hE⟩:=hrel;by_cases hc:k<m
    .have aR:(k:Int)<m:=ao9;have aU:(0:Int)<=(k:Int):=ao9;obtain⟨g,j,rfl,hj,cr⟩:=row _ _ _ hE.out k hc;obtain⟨jb,jx⟩:=j;obtain⟨Y9q,hY⟩:=Ex ((Co X k).1);obtain⟨q0,al⟩:=Ex ((Co X k).2);have c:=hE.out;rw[<-hY]at c;obtain⟨aF,aQ⟩:=c.tab.get hj;have o:=Aso aF;have aB:Y9q[k]?=O jx.pl:=by rw[<-c.pl];simp[hj]
     have s:=Asu (T:={ T with js:=a }) c.tab.at_ hj (λid aS=>by
      have:=c.j5 jx.pl (Ai aB) id aS;have e:Y9q.length=a.length:=(by rw[<-c.pl];simp);rw[e]at this
      exact this)
     have aO:({ T with js:=a }:Tv).pl.ab=Y9q:=c.pl;rw[aO]at s;have d:Gj Y9q k=(jx.pl.waits && Sp Y9q jx.pl):=by unfold Gj;rw[aB]
     have l:∀b,Gj Y9q k=b->(Co X (k+1))=(E7 Y9q k,q0 || b):=λb q=>by
      show(E7 (Co X k).1 k,(Co X k).2 || Gj (Co X k).1 k)=_;rw[<-hY,<-al,q]
     obtain⟨qw,aM⟩:=Ex (jx.pl.waits);obtain⟨ql,aL⟩:=Ex (Sp Y9q jx.pl);rw[<-aM]at o d;rw[<-aL]at s d;have mv:=λ(W:WD) (hW:Bj W jb jx)=>S4 hW 7 ao9;rw[show({ T with js:=a }:Tv).tb=tb from ht.symm]at s;rw[<-al];clear aB aO;replace⟨hE,c,hj,aF,aQ,o,s,d⟩:=H8 hE c hj aF aQ o s d;replace⟨l,aM,aL,mv,hY,al,hF,u⟩:=H8 l aM aL mv hY al hF u;replace ac:=Hh ac;go_wp2_with fail;refine o.mono ?_;rintro e w1 ⟨rfl,rfl⟩
     cases qw with
     | false=>
      have q:Gj Y9q k=false:=(by rw[d.out];rfl);have h1:=l false q;have v:lg w T a (Co X (k+1)).1 w1:=(by rw[h1,Yr q];exact c.out);have hq:(Co X (k+1)).2=q0:=(by rw[h1];simp);replace⟨q,h1,v,hq⟩:=H4 q h1 v hq;go_wp2;go_roundw
      case rel=>exact⟨k+1,a,by go_num,ao9,by rw[hq.out],v.out⟩
      case measure=>simp[intOf];omega
     | true=>
      go_wp2_with fail;refine s.mono ?_;rintro e w2 ⟨rfl,y⟩;have n:=c.low y;have p:=(n.tab.get hj.out).1
      cases ql with
      | false=>
       have q:Gj Y9q k=false:=(by rw[d.out];rfl);have h1:=l false q;have v:lg w T a (Co X (k+1)).1 w2:=(by rw[h1,Yr q];exact n);have hq:(Co X (k+1)).2=q0:=(by rw[h1];simp);replace⟨q,h1,v,hq,y,n,p⟩:=H7 q h1 v hq y n p;go_wp2;go_roundw
       case rel=>exact⟨k+1,a,by go_num,ao9,by rw[hq.out],v.out⟩
       case measure=>simp[intOf];omega
      | true=>
       have q:Gj Y9q k=true:=(by rw[d.out];rfl);have h1:=l true q;have aJ:=mv _ p;replace⟨q,h1,y,n,p,aJ⟩:=H6 q h1 y n p aJ;go_wp2_with fail;refine aJ.mono ?_;rintro e w3 ⟨rfl,aC,aG⟩;have aE:=Ym aC;replace⟨aC,aG,aE⟩:=H3 aC aG aE;go_wp2_with fail;refine aE.mono ?_;rintro e w4 ⟨rfl,aD,aH⟩
       have av:=
        n.tab.uz hj.out (aG.trans aH) aD ((Yp _ _).trans (Yq _)) ⟨rfl,rfl,rfl,rfl⟩
       have aK:(a.set k (jb,(jx.bm (Ay jx.pl.lf 7).1).bare)).map (λj=>j.2.pl)=E7 Y9q k:=(by rw[N7 a hj.out (f:=λj=>(j.move 7).bare) rfl,n.pl];unfold E7;rw[Ad q.out]);have v:lg w T (a.set k (jb,(jx.bm (Ay jx.pl.lf 7).1).bare)) (Co X (k+1)).1 w4:=(by rw[h1.out];exact⟨av,aK,Rc n.j5 (Ahy _ _)⟩);have hq:(Co X (k+1)).2=true:=(by rw[h1.out];simp);replace⟨aD,aH,av,aK,v,hq⟩:=H6 aD aH av aK v hq;go_wp2;go_roundw
       case rel=>exact⟨k+1,_,by go_num,ao9,by rw[hq.out],v.out⟩
       case measure=>simp[intOf];omega
    .have aR:¬(k:Int)<m:=ao9;have aI:k=m:=ao9
     have aA:X.length=m:=by
      have:=u.tab.len;have e:X.length=js.length:=(by rw[<-u.pl];simp);rw[e,this,hm.out]
     have e1:Co X k=Cw X:=(by unfold Cw;rw[aA,aI]);rw[e1]at hE;rw[e1];have o:=Ahx u.tab.at_;have am:=Ahx hE.tab.at_;have b1:({ T with js:=js }:Tv).js.map Prod.fst=T.js.map Prod.fst:=u.tab.au;have b2:({ T with js:=a }:Tv).js.map Prod.fst=T.js.map Prod.fst:=hE.tab.au;rw[b1,show({ T with js:=js }:Tv).pl.ab=X from u.pl]at o;rw[b2,show({ T with js:=a }:Tv).pl.ab=(Cw X).1 from hE.pl]at am;have ao:C2 X0=C2 X:=hF.out;have r:=As2 X;obtain⟨qp,t⟩:=Ex ((Cw X).2);rw[<-t]at r ⊢;replace⟨o,am,ao,r,t,e1,aI,aA⟩:=H8 o am ao r t e1 aI aA;replace⟨b1,b2⟩:=H2 b1 b2;go_wp2;go_roundw
     case rel=>
      refine⟨qp,a,(Cw X).1,rfl,hE.out,?_⟩;show C2 X0=_;rw[ao.out,r.out]
      cases qp with
      | true=>rfl
      | false=>
       show X=(Cw X).1;exact(Ab9 t.symm).symm
     case measure=>
      rw[o.out,am.out]
      cases qp with
      | true=>
       have:=Ab8 t.symm;simp[Acb];omega
      | false=>
       rw[Ab9 t.symm];simp[Acb]
def Yt (a:List (Int×Int)) (k:Nat) (b:Int):(Aw Fr a).set (k*2+1) (Z G b)=Aw Fr (a.modify k λp=>(p.1,b)):=by
 induction a generalizing k with
 | nil=>simp[Aw]
 | cons p l ih=>
  cases k with
  | zero=>simp[Aw]
  | succ k=>
   have e:(k+1)*2+1=(k*2+1)+1+1:=ao9;have:=ih k;rw[e,Wi];simp only[Aw,Ub]at this ⊢;simp only[Pt,Sb,Ew];rw[this]
def Ahz (a:List (Int×Int)):(Aw Fr a).length=a.length*2:=by
 induction a with
 | nil=>rfl
 | cons p l ih=>simp[Aw]at ih ⊢;omega
def As4 {w:WD} {a pc:Nat} {n:Nat} {d:List (Int×Int)} (h:w.ownsRow 0 65 2 (V (O ⟨a,0,I⟩) n pc) n (Aw Fr d)) (k:Nat) (b:Int) :
  (w.setCell ⟨a,k*2+1,I⟩ (Z G b)).ownsRow 0 65 2 (V (O ⟨a,0,I⟩) n pc) n (Aw Fr (d.modify k λp=>(p.1,b))):=by
 refine⟨by rw[<-Yt,Dy];exact h.1,?_⟩;rcases h.2 with⟨e,_⟩|⟨g,cap,c,e,l,m,h1,f,i,j⟩
 .simp at e
 .simp at e;obtain⟨rfl,rfl⟩:=e;refine .inr ⟨a,pc,c.setIfInBounds (k*2+1) (Z G b),rfl,l,Ap m _ _,h1,f,by simpa using i,?_⟩;rw[<-Yt,<-j];simp[List.take_set]
def aj.cz (x:aj) (p:Jb):aj:={ x with pl:=p }
def Rd {w:WD} {x:aj} (h:Ca w x) {k:Nat} (n:k<x.pn):∃c p,x.po=O ⟨c,0,I⟩/\x.pl.parts[k]?=O p/\w.cell? ⟨c,k*2,I⟩=O (Z G p.1)/\w.cell? ⟨c,k*2+1,I⟩=O (Z G p.2):=by
 have o:=Ks h;obtain⟨p,b⟩:=Ge x.pl.parts k ao9;rcases h.2 with⟨_,e⟩|⟨g,cap,l,e,_,_,_⟩
 .omega
 .simp at e;have a:=h;unfold Ca at a;rw[e.1,e.2]at a;have f:=F0 a (k*2) ao9;have i:=F0 a (k*2+1) ao9;have d:=Gw Ag6 x.pl.parts (j:=0) b ao9;have m:=Gw Ag6 x.pl.parts (j:=1) b ao9;rw[Jo]at d;exact⟨g,p,e.1,b,by rw[f,d];rfl,by rw[i,m];rfl⟩
def Yu {w:WD} {b:Nat} {x:aj} (hb:Bj w b x) (hp:Ca w x) (k:Nat) (hk:k<x.pn) (pb:Nat) (g:x.po=O ⟨pb,0,I⟩) (d:Int) :
  CS prog 140 #[K (O ⟨b,0,I⟩),K (O ⟨pb,k*2,I⟩),Z G d] w λe w'=>e=Y (.tuple #[])/\Bj w' b (x.cz (Em x.pl k d))/\Ca w' (x.cz (Em x.pl k d))/\Mod (G3 (b,x)) w w':=by
 have f:x.pb=O pb:=by unfold aj.pb;rw[g];rfl
 have u:pb≠b:=λe=>Bv hp hb ad9 (by rw[<-e];exact f);have hl:=Ks hp;obtain⟨al,p,e,ac,_,c1⟩:=Rd hp hk;rw[g]at e;injection e with e;injection e with e _ _;subst e;obtain⟨ad,n,_⟩:=C7 hp f;have f1:=Ag n;have v:=hp;unfold Ca at v;rw[g]at v;have y:=As4 v k d;obtain⟨w1,r⟩:=Ex (w.setCell ⟨pb,k*2+1,I⟩ (Z G d));have t:Mod (λk=>k=pb) w w1:=by rw[r];exact Mod.setCell _ _ _ _ rfl
 have j:Bj w1 b x:=t.au hb (λe=>u e.symm);rw[<-r]at y;have o:Mod (G3 (b,x)) w w1:=t.mono λi _ e=>.inr (by rw[e];exact f)
 have h:∀(l:Lf) (W:WD),Bj W b (x.bm l)->Mod (λk=>k=b) w1 W->l=N1 d x.pl.lf->Bj W b (x.cz (Em x.pl k d))/\Ca W (x.cz (Em x.pl k d))/\Mod (G3 (b,x)) w W:=λl W hW hm hl=>by
  subst hl;refine⟨hW,?_,o.trans (P7 hm)⟩
  have:=Bd y hm λi hi c=>by
   simp[Value.ownBlock]at hi;exact u (hi.trans c)
  unfold Ca;show W.ownsRow 0 65 2 (V x.po x.pn x.pc) x.pn _;rw[g];exact this
 have k4:=S4 j 4 ao9;have k5:=S4 j 5 ao9;rw[r]at k4 k5
 have hs:N1 d x.pl.lf=if d=2 then(Ay x.pl.lf 4).1 else if d=3 then(Ay x.pl.lf 5).1 else x.pl.lf:=rfl
 have m:=j;have s:=Hh r;clear r n v ac;replace⟨hb,hp,g,f,u,hl,y,t⟩:=H8 hb hp g f u hl y t;replace⟨j,o,h,k4,k5,hs,m⟩:=H7 j o h k4 k5 hs m;by_cases q:d=2
 .have d1:(d == (2:Int))=true:=by rw[q];rfl
  have a:N1 d x.pl.lf=(Ay x.pl.lf 4).1:=by rw[hs.out,Ad q]
  replace⟨q,a⟩:=H2 q a;go_enter func140,ntmps140;go_wp2_with fail;refine k4.mono ?_;rw[<-s.out];rintro e w2 ⟨rfl,h1,h2⟩;replace⟨h1,h2⟩:=H2 h1 h2;go_wp2;go_end0;exact⟨rfl,h _ _ h1.out h2.out a.symm⟩
 .have d1:=Br.2 q;by_cases z:d=3
  .have d2:(d == (3:Int))=true:=(by rw[z];rfl);have a:N1 d x.pl.lf=(Ay x.pl.lf 5).1:=(by rw[hs.out,Ac q,Ad z]);replace⟨q,z,a⟩:=H3 q z a;go_enter func140,ntmps140;go_wp2_with fail;refine k5.mono ?_;rw[<-s.out];rintro e w2 ⟨rfl,h1,h2⟩;replace⟨h1,h2⟩:=H2 h1 h2;go_wp2;go_end0;exact⟨rfl,h _ _ h1.out h2.out a.symm⟩
  .have d2:=Br.2 z;have a:N1 d x.pl.lf=x.pl.lf:=(by rw[hs.out,Ac q,Ac z]);replace⟨q,z,a⟩:=H3 q z a;go_enter func140,ntmps140;go_wp2;go_end0;rw[<-s.out];exact⟨rfl,h _ _ m.out (Mod.refl _ _) a.symm⟩
def As5 (j:Jb) (k:Nat) (a:Int):(Em j k a).parts.length=j.parts.length:=by simp[Em]
def As6 (j:Jb) (k:Nat) (a:Int):(Kr j k a).parts.length=j.parts.length:=by
 unfold Kr;split
 .rfl
 .split
  .exact As5 _ _ _
  .rfl
def As7 (j:Jb) (a:Int) (n:Nat):(Fq j a n).parts.length=j.parts.length:=by
 induction n with
 | zero=>rfl
 | succ n ih=>exact(As6 _ _ _).trans ih
structure vy (w:WD) (b:Nat) (x:aj) (p:Jb) (wr:WD):Prop where
 box:Bj wr b (x.cz p)
 parts:Ca wr (x.cz p)
 mod:Mod (G3 (b,x)) w wr
def Ah0 {w:WD} {b:Nat} {x:aj} (hb:Bj w b x) (hp:Ca w x) (a:Int) :
  CS prog 133 #[K (O ⟨b,0,I⟩),Z G a] w λe w'=>e=Y (.tuple #[])/\vy w b x (E8 x.pl a) w':=by
 have hl:=Ks hp;have h0:vy w b x (Fq x.pl a 0) w:=⟨hb,hp,Mod.refl _ _⟩;have y:=Bk hb 21 (V x.po x.pn x.pc) rfl;obtain⟨po,l⟩:=Ex (x.po);obtain⟨pn,g⟩:=Ex (x.pn);obtain⟨pc,s⟩:=Ex (x.pc)
 have ao:pn<=9223372036854775807:=by
  rw[g];rcases hp.2 with⟨_,e2⟩|⟨g',an,ap,e2,_,_,h1,h2,_⟩
  .omega
  .unfold maxLen at h2;omega
 rw[<-l,<-g,<-s]at y;have hJ:E8 x.pl a=Fq x.pl a pn:=by unfold E8;rw[hl,g]
 rw[hJ];replace⟨hb,hp,hl,h0,l,g,s,hJ⟩:=H8 hb hp hl h0 l g s hJ;go_enter func133,ntmps133;go_wp2;clear y;go_loopw [4,5,11] (λ_ _ i wr=>∃k:Nat,i=Z G k/\k<=pn/\Hid (vy w b x (Fq x.pl a k) wr)) (λ_ _ i _=>pn-(intOf i).toNat)
 case atStart=>exact⟨0,rfl,As _,h0.out⟩
 case round=>
  obtain⟨k,rfl,hk,hG⟩:=hrel;by_cases hc:k<pn
  .have am:(k:Int)<pn:=ao9;have av:(0:Int)<=(k:Int):=ao9;obtain⟨j,hj⟩:=Ex (Fq x.pl a k);obtain⟨X,n⟩:=Ex (x.cz j);have d:=hG.out;rw[<-hj]at d;have r:Ca wr X:=(by rw[n];exact d.parts);have o:Bj wr b X:=(by rw[n];exact d.box);have ac:k<X.pn:=(by rw[n];show k<x.pn;rw[<-g.out];exact hc);obtain⟨pb,p,e,ad,c0,c1⟩:=Rd r ac;have e2:po=O ⟨pb,0,I⟩:=(by rw[l.out,<-e,n];rfl);have y:wr.cell? ⟨b,21,I⟩=O (V (O ⟨pb,0,I⟩) pn pc):=(by rw[Aa o 21,n];show O (Value.slice x.po x.pn x.pc)=_;rw[<-l.out,<-g.out,<-s.out,e2]);have h:=Yu o r k ac pb e 3;obtain⟨t,u⟩:=p
   have f:Fq x.pl a (k+1)=if u=0/\(a<0\/t=a)then Em j k 3 else j:=by
    show Kr (Fq x.pl a k) k a=_;rw[<-hj];have al:j.parts[k]?=O (t,u):=(by rw[<-ad,n];rfl);unfold Kr;rw[al]
   have hw:∀W:WD,Bj W b (X.cz (Em X.pl k 3))/\Ca W (X.cz (Em X.pl k 3))/\Mod (G3 (b,X)) wr W->u=0/\(a<0\/t=a)->vy w b x (Fq x.pl a (k+1)) W:=λW ⟨h1,h2,h3⟩ hq=>by
    rw[f,Ad hq];rw[n]at h1 h2 h3;exact⟨h1,h2,d.mod.trans h3⟩
   have hn:¬(u=0/\(a<0\/t=a))->vy w b x (Fq x.pl a (k+1)) wr:=λhq=>by
    rw[f,Ac hq];exact d
   clear ad;replace⟨d,r,o,h,f,hw,hn,e⟩:=H8 d r o h f hw hn e;replace⟨e2,n,hj,hG⟩:=H4 e2 n hj hG;by_cases q:u=0
   .have d1:(u == (0:Int))=true:=(by rw[q];rfl);by_cases q2:a<0
    .have m:u=0/\(a<0\/t=a):=⟨q,.inl q2⟩;replace⟨q,m⟩:=H2 q m;go_wp2_with fail;refine h.mono ?_;rintro e w2 ⟨rfl,hh⟩;have c:=hw _ hh m.out;clear hh;replace c:=Hh c;go_wp2;go_roundw
     case rel=>exact⟨k+1,by go_num,ao9,c.out⟩
     case measure=>simp[intOf];omega
    .by_cases v:t=a
     .have m:u=0/\(a<0\/t=a):=⟨q,.inr v⟩;have d3:(t == a)=true:=(by rw[v];simp);replace⟨q,m,v⟩:=H3 q m v;go_wp2_with fail;refine h.mono ?_;rintro e w2 ⟨rfl,hh⟩;have c:=hw _ hh m.out;clear hh;replace c:=Hh c;go_wp2;go_roundw
      case rel=>exact⟨k+1,by go_num,ao9,c.out⟩
      case measure=>simp[intOf];omega
     .have d3:=Br.2 v;have c:=hn.out λm=>m.2.elim q2 v;replace⟨q,v,c⟩:=H3 q v c;go_wp2;go_roundw
      case rel=>exact⟨k+1,by go_num,ao9,c.out⟩
      case measure=>simp[intOf];omega
   .have d1:=Br.2 q;have c:=hn.out λm=>q m.1;replace⟨q,c⟩:=H2 q c;go_wp2;go_roundw
    case rel=>exact⟨k+1,by go_num,ao9,c.out⟩
    case measure=>simp[intOf];omega
  .have am:¬(k:Int)<pn:=ao9;have z:k=pn:=ao9;have d:=hG.out;rw[z]at d;replace⟨d,z⟩:=H2 d z;go_wp2;go_end0;exact⟨rfl,d.out⟩
def As8:∀args w,(callFunc 183 args).run prog w=.ok (.enter 183 args) w:=J2 func183 ad9 (by simp[f183])
def Ah1 {w:WD} {x:aj} (h:Ca w x):N6 w x.po x.pn x.pl.parts:=by
 have o:=Ks h;refine⟨o,?_,λi p c=>?_⟩
 .rcases h.2 with⟨_,e⟩|⟨g,cap,b,e,_,_,h1,l,_⟩
  .omega
  .unfold maxLen at l;omega
 .have q:=(An.1 c).1;obtain⟨d,r,e,a,f,j⟩:=Rd h (k:=i) ao9;rw[c]at a;injection a with a;subst a;have m:x.pb=O d:=by unfold aj.pb;rw[e];rfl
  obtain⟨b,n,_⟩:=C7 h m;exact⟨d,e,Ab n,f,j⟩
def Ca.low {w w':WD} {x:aj} (h:Ca w x) (a:BW w.heap.size w w'):Ca w' x:=Bd (S:=λ_=>False) h (Mod.af a) λ_ _ c=>c
def As9 (x:Int×Int) (w:WD):CS prog 183 (#[.agg #[Z G x.1,Z G x.2]]++#[]) w λe w'=>e=Y (Q (decide (x.2=0)))/\BW w.heap.size w w':=by
 have a:Hid (BW w.heap.size w (w.alloc (J #[Z G x.1,Z G x.2] 65 (0,0)))):=Hh Bn;by_cases q:x.2=0
 .have d:(x.2 == (0:Int))=true:=by rw[q];rfl
  have b:=Az q;rw[b];replace⟨q,b⟩:=H2 q b;go_enter func183,ntmps183;go_wp2;go_ret;exact⟨rfl,a.out⟩
 .have d:=Br.2 q;have b:=A2 q;rw[b];replace⟨q,b⟩:=H2 q b;go_enter func183,ntmps183;go_wp2;go_ret;exact⟨rfl,a.out⟩
def Ata {w:WD} {x:aj} (h:Ca w x):CS prog 182 #[V x.po x.pn x.pc,.func (.func 183) #[] #[]] w λe w'=>e=Y (Q x.pl.open_)/\BW w.heap.size w w':=
 Asr 183 #[] (λp=>decide (p.2=0)) x.po x.pn x.pc x.pl.parts w (Ah1 h) As8 λp _ w1 _=>As9 p w1
def Er (f:Jb->Jb) (X:List Jb):Nat->List Jb
 | 0=>X
 | n+1=>(Er f X n).modify n f
def Acc (f:Jb->Jb) (X:List Jb) (n i:Nat):(Er f X n)[i]?=if i<n then(X[i]?).map f else X[i]?:=by
 induction n with
 | zero=>simp[Er]
 | succ n ih=>
  show((Er f X n).modify n f)[i]?=_;rw[Dj,ih];by_cases h:n=i
  .subst h;simp
  .by_cases b:i<n
   .have a:i<n+1:=ao9;simp[h,b,a]
   .have a:¬i<n+1:=ao9;simp[h,b,a]
def S5 (f:Jb->Jb) (X:List Jb):Er f X X.length=X.map f:=by
 apply Eh;intro i;rw[Acc,A7];split
 .rfl
 .have:X[i]?=I:=Pq ao9;rw[this];rfl
def Yv (f:Jb->Jb) (a:∀j,(f j).sp=j.sp) (X:List Jb) (n:Nat):(Er f X n).map Jb.sp=X.map Jb.sp:=by
 apply Eh;intro i;rw[A7,A7,Acc];split
 .rw [Option.map_map];congr 1
  funext j
  exact a j
 .rfl
def Ah2 (j:Jb):(Do j).sp=j.sp:=by
 unfold Do;split
 .rfl
 .split<;>rfl
def aj.gy (x:aj):aj:={ x with pl:={ x.pl with parts:=[] },po:=I,pn:=0,pc:=0 }
def Ah3 (x:aj):I4 x x.gy:=⟨rfl,rfl,rfl,rfl,rfl,rfl,.inl ⟨rfl,rfl,rfl,rfl⟩,λb h=>by cases h⟩
def Ah4 (w:WD) (x:aj):Ca w x.gy:=Mr _ _ _ _
def Atb {x:aj} {w:WD} (h:Ca w x):(x.pn:Int)=0↔x.pl.parts=[]:=by
 have:=Ks h;rw[<-Ib];omega
def Lh.then {w w1:WD} {T:Tv} {js:List (Nat×aj)} {X:List Jb} {e:Ending} {w':WD} (h:B7 w T js w1) (b:Lh w1 { T with js:=js } X e w'):Lh w T X e w':=by
 obtain⟨h1,a,c,d⟩:=b;exact⟨h1,a,h.then c,d⟩
def Acd {w:WD} {T:Tv} (h:Ao w T) (ha:Ep T.pl.ab):CS prog 134 #[K (O ⟨T.tb,0,I⟩)] w (Lh w T (Gk T.pl.ab)):=by
 obtain⟨so,cap,aK,a5,aW,_⟩:=h.og;obtain⟨tb,ht⟩:=Ex (T.tb);obtain⟨m,hm⟩:=Ex (T.js.length);obtain⟨x,am⟩:=Ex (T.pl.ab);have aI:lg w T T.js (Er Do x 0) w:=⟨B7.refl h,am.symm,by show Ep x;rw[am];exact ha⟩;have aO:x.length=m:=by rw[am,hm];simp[Tv.pl]
 have aF:∀(js:List (Nat×aj)) (X:List Jb) (W:WD),lg w T js X W->W.cell? ⟨tb,4,I⟩=O (V so m cap):=λjs X W hW=>by
  rw[ht,Aa hW.tab.at_.head 4,hm,<-aK];rfl
 have row:∀(js:List (Nat×aj)) (X:List Jb) (W:WD),lg w T js X W->∀k,k<m->∃g j,so=O ⟨g,0,I⟩/\js[k]?=O j/\W.cell? ⟨g,k,I⟩=O (K (O ⟨j.1,0,I⟩)):=λjs X W hW k hk=>by
  have hl:js.length=m:=by rw[hm];exact hW.tab.len
  obtain⟨j,hj⟩:=Ge js k ao9;obtain⟨a1,aV,e1,_,_,hr⟩:=hW.tab.at_.og;obtain⟨g,e2,hc⟩:=hr k j hj;have e3:T.jv=V a1 js.length aV:=e1;rw[aK]at e3;injection e3 with e3 _ _;exact⟨g,j,e3.trans e2,hj,hc⟩
 have c4:=aF _ _ _ aI;rw[hm.symm]at aW;rw[<-ht,<-am];replace⟨h,ha,aK,am,aI,aF,row,hm⟩:=H8 h ha aK am aI aF row hm;replace⟨ht,aO⟩:=H2 ht aO;go_enter func134,ntmps134;go_wp2;clear c4;go_loopw [3,10] (λ_ i wr=>∃(k:Nat) (js:List (Nat×aj)),i=Z G k/\k<=m/\Hid (lg w T js (Er Do x k) wr)) (λ_ i _=>m-(intOf i).toNat)
 case atStart=>exact⟨0,T.js,rfl,As _,aI.out⟩
 case round=>
  obtain⟨k,js,rfl,hk,hE⟩:=hrel;by_cases hc:k<m
  .have aY:(k:Int)<m:=ao9;have a4:(0:Int)<=(k:Int):=ao9;obtain⟨g,j,rfl,hj,cr⟩:=row _ _ _ hE.out k hc;obtain⟨jb,b⟩:=j;obtain⟨Y9q,hY⟩:=Ex (Er Do x k);have a:=hE.out;rw[<-hY]at a;obtain⟨aE,an⟩:=a.tab.get hj;have av:Y9q[k]?=O b.pl:=(by rw[<-a.pl];simp[hj]);have n:Er Do x (k+1)=Y9q.modify k Do:=(by rw[hY];rfl);have p:Ep (Er Do x (k+1)):=Rc a.j5 (by rw[Yv _ Ah2,hY,Yv _ Ah2]);have r:=Atb an.parts;have a2:=Bk aE 21 (V b.po b.pn b.pc) rfl;obtain⟨pn,u⟩:=Ex (b.pn);obtain⟨po,ap⟩:=Ex (b.po);obtain⟨pc,ao⟩:=Ex (b.pc);rw[<-u,<-ap,<-ao]at a2;have z:=Ata an.parts;rw[<-u,<-ap,<-ao]at z;have aG:=λ(W:WD) (hW:Bj W jb b)=>S4 hW 8 ao9
   have s:∀y,b.pl.parts=[]\/b.pl.open_=true->y=Er Do x (k+1)->y=Y9q:=λy hy e=>by
    rw[e,n];have e1:Do b.pl=b.pl:=Ad hy;apply Eh;intro i;rw[Dj];by_cases h:k=i
    .subst h;simp[av,e1]
    .simp [h]
   by_cases q0:pn=0
   .have d1:((pn:Int) == 0)=true:=(by rw[q0];rfl);have d:lg w T js (Er Do x (k+1)) wr:=(by rw[s _ (.inl (r.1 (by rw[<-u,q0];rfl))) rfl];exact a);replace⟨q0,hE,a,hj,aE,an,hY,av⟩:=H8 q0 hE a hj aE an hY av;replace⟨n,p,r,u,ap,ao,z,aG⟩:=H8 n p r u ap ao z aG;replace⟨s,d⟩:=H2 s d;go_wp2;go_roundw
    case rel=>exact⟨k+1,js,by go_num,ao9,d.out⟩
    case measure=>simp[intOf];omega
   .have d1:((pn:Int) == 0)=false:=(by rw[Br];omega);obtain⟨q,hq⟩:=Ex (b.pl.open_);rw[<-hq]at z;replace⟨q0,hE,a,hj,aE,an,hY,av⟩:=H8 q0 hE a hj aE an hY av;replace⟨n,p,r,u,ap,ao,z,aG⟩:=H8 n p r u ap ao z aG;replace⟨s,hq⟩:=H2 s hq;go_wp2_with fail;refine z.mono ?_;rintro e w1 ⟨rfl,aB⟩;have o:=a.low aB;have t:=(o.tab.get hj.out).1
    cases q with
    | true=>
     have d:lg w T js (Er Do x (k+1)) w1:=(by rw[s _ (.inr hq.symm) rfl];exact o);replace⟨aB,o,t,d⟩:=H4 aB o t d;go_wp2;go_roundw
     case rel=>exact⟨k+1,js,by go_num,ao9,d.out⟩
     case measure=>simp[intOf];omega
    | false=>
     have ad:=aG _ t;obtain⟨l,hl⟩:=Ex ((Ay b.pl.lf 8).1);rw[<-hl]at ad
     have aM:Do b.pl=if l.st=1 then⟨b.pl.id,b.pl.sp,l,-1,[],[]⟩else⟨b.pl.id,b.pl.sp,l,b.pl.start,b.pl.ah,[]⟩:=by
      have aZ:¬(b.pl.parts=[]\/b.pl.open_=true):=λc=>by
       rcases c with c|c
       .exact q0.out (by have:=r.2 c;rw[u.out];omega)
       .rw [<-hq.out]at c;cases c
      rw[hl];exact Ac aZ
     replace⟨aB,o,t,ad,hl,aM⟩:=H6 aB o t ad hl aM;go_wp2_with fail;refine ad.mono ?_;rintro e w2 ⟨rfl,aC,aS⟩;obtain⟨w3,aH⟩:=Ex (w2.setCell ⟨jb,21,I⟩ (V I 0 0));have aD:Bj w3 jb (b.bm l).gy:=(by unfold Bj;rw[aH,Ap aC];simp[aj.gy]);have aL:Kb jb w1 w3:=(by rw[aH];exact aS.trans (Mod.setCell _ _ _ _ rfl));have aX:∃v,w2.cell? ⟨jb,21,I⟩=O v:=⟨_,Aa aC 21⟩;obtain⟨a6,aX⟩:=aX;have fz:=Ag aC;have a3:=Bk aD 14 (Z G l.st) rfl;have aJ:=Ym aD;rw[aH]at a3 aJ;have aN:=Hh aH;clear aH;replace⟨aC,aS,aD,aL,aJ⟩:=H5 aC aS aD aL aJ;by_cases q1:l.st=1
     .have d3:=Mw.2 q1;have ac:Do b.pl=⟨b.pl.id,b.pl.sp,l,-1,[],[]⟩:=(by rw[aM.out,Ad q1]);replace⟨q1,ac⟩:=H2 q1 ac;go_wp2_with fail;refine aJ.mono ?_;rw[<-aN.out];rintro e w4 ⟨rfl,aP,aT⟩
      have al:=
       o.tab.dv hj.out (P7 (aL.trans aT)) aP (Ah4 _ (b.bm l).bare) (((Yp _ _).trans (Ah3 _)).trans (Yq _))
      have d:lg w T (js.set k (jb,(b.bm l).gy.bare)) (Er Do x (k+1)) w4:=(by refine⟨al,?_,p.out⟩;rw[N7 js hj.out (f:=Do) (by rw[ac.out];rfl),o.pl,n.out]);replace⟨aP,aT,al,d⟩:=H4 aP aT al d;go_wp2;go_roundw
      case rel=>exact⟨k+1,_,by go_num,ao9,d.out⟩
      case measure=>simp[intOf];omega
     .have d3:=Br.2 q1;have ac:Do b.pl=⟨b.pl.id,b.pl.sp,l,b.pl.start,b.pl.ah,[]⟩:=by rw[aM.out,Ac q1]
      have al:=
       o.tab.dv hj.out (P7 aL.out) aD.out (Ah4 _ (b.bm l)) ((Yp _ _).trans (Ah3 _))
      have d:lg w T (js.set k (jb,(b.bm l).gy)) (Er Do x (k+1)) w3:=(by refine⟨al,?_,p.out⟩;rw[N7 js hj.out (f:=Do) (by rw[ac];rfl),o.pl,n.out]);rw[aN.out]at d;clear al;replace⟨q1,ac,d⟩:=H3 q1 ac d;go_wp2;go_roundw
      case rel=>exact⟨k+1,_,by go_num,ao9,d.out⟩
      case measure=>simp[intOf];omega
  .have aY:¬(k:Int)<m:=ao9;have aU:k=m:=ao9;have a:=hE.out;have aA:Er Do x k=x.map Do:=(by rw[aU,<-aO.out];exact S5 _ _);rw[aA]at a
   have aQ:CS prog 130 #[K (O ⟨tb,0,I⟩)] wr (Lh wr { T with js:=js } (C2 (x.map Do))):=by
    have:=Ys (T:={ T with js:=js }) a.tab.at_ (by
     show Ep (js.map λj=>j.2.pl)
     rw[a.pl];exact a.j5)
    rw[show({ T with js:=js }:Tv).pl.ab=x.map Do from a.pl]at this;rw[ht.out];exact this
   replace⟨aQ,a,aA,aU,hE⟩:=H5 aQ a aA aU hE;go_wp2_with fail;refine aQ.mono ?_;rintro e w2 hp
   have a0:=Lh.then a.tab hp
   obtain⟨rfl,aR⟩:=a0;replace aR:=Hh aR;clear hp;go_wp2;go_end0;exact⟨rfl,aR.out⟩
def Fv (kind:Int):Int:=if kind=3 then 6 else if kind=4 then 1 else 2
def Ah5 (k:Int) (w:WD):CS prog 101 #[Z G k] w λe w'=>e=Y (Z G (Fv k))/\w'=w:=by
 by_cases q:k=3
 .have d:(k == (3:Int))=true:=by rw[q];rfl
  have a:Fv k=6:=Ad q;rw[a];replace⟨q,a⟩:=H2 q a;go_enter func101,ntmps101;go_wp2;go_ret;exact⟨rfl,rfl⟩
 .have d:=Br.2 q;by_cases b:k=4
  .have c:(k == (4:Int))=true:=(by rw[b];rfl);have a:Fv k=1:=(by unfold Fv;rw[Ac q,Ad b]);rw[a];replace⟨q,a,b⟩:=H3 q a b;go_enter func101,ntmps101;go_wp2;go_ret;exact⟨rfl,rfl⟩
  .have c:=Br.2 b;have a:Fv k=2:=(by unfold Fv;rw[Ac q,Ac b]);rw[a];replace⟨q,a,b⟩:=H3 q a b;go_enter func101,ntmps101;go_wp2;go_ret;exact⟨rfl,rfl⟩
def Atc {α:Type} {p:α->Bool} {l:List α} {k:Nat} {x:α} (h:∀i y,i<k->l[i]?=O y->p y=false) (d:l[k]?=O x) (c:p x=true):l.findIdx? p=O k:=by
 obtain⟨b,e⟩:=An.1 d;rw[Aae];refine⟨b,by rw[e];exact c,λj a=>?_⟩;have:=h j _ a (A3 ao9);simp[this]
def Atd {α:Type} {p:α->Bool} {l:List α} {n:Nat} (c:l.length=n) (h:∀i y,i<n->l[i]?=O y->p y=false):l.findIdx? p=I:=by
 rw[List.findIdx?_eq_none_iff];intro x b;obtain⟨i,a,e⟩:=Ol.1 b;exact h i x ao9 (by rw[A3 a,e])
def Ah6 (x:aj) (attempt node:Int) (w:WD) (e:Ending) (w':WD):Prop:=
 w'=w/\((Gl x.pl attempt node=I/\e=Y (K I))\/∃k pb,Gl x.pl attempt node=O k/\x.po=O ⟨pb,0,I⟩/\k<x.pn/\e=Y (K (O ⟨pb,k*2,I⟩)))
def Ah7 {w:WD} {b:Nat} {x:aj} (hb:Bj w b x) (hp:Ca w x) (attempt node:Int):CS prog 102 #[K (O ⟨b,0,I⟩),Z G attempt,Z G node] w (Ah6 x attempt node w):=by
 have hl:=Ks hp
 have a:Gl x.pl attempt node=if cu x.pl.lf.st=true/\x.pl.lf.bh=attempt then x.pl.parts.findIdx? (λp=>decide (p.1=node) && decide (p.2=0))else I:=rfl
 have an:=Bk hb 14 (Z G x.pl.lf.st) rfl;have ao:=Bk hb 15 (Z G x.pl.lf.bh) rfl;have ap:=Bk hb 21 (V x.po x.pn x.pc) rfl;obtain⟨st,al⟩:=Ex (x.pl.lf.st);obtain⟨at_,ac⟩:=Ex (x.pl.lf.bh);obtain⟨po,u⟩:=Ex (x.po);obtain⟨pn,f⟩:=Ex (x.pn);obtain⟨pc,ad⟩:=Ex (x.pc);have av:pn<=9223372036854775807:=by rw[f];exact(Ah1 hp).max
 rw[<-al]at an a;rw[<-ac]at ao a;rw[<-u,<-f,<-ad]at ap;have j:=Ra st w;obtain⟨q,hq⟩:=Ex (cu st);rw[<-hq]at j a;replace⟨hb,hp,hl,al,ac,u,f,ad⟩:=H8 hb hp hl al ac u f ad;replace⟨j,hq⟩:=H2 j hq
 cases q with
 | false=>
  have d:Gl x.pl attempt node=I:=by rw[a];exact Ac (λc=>by cases c.1)
  replace⟨a,d⟩:=H2 a d;go_enter func102,ntmps102;go_wp2_with fail;refine j.mono ?_;rintro e w' ⟨rfl,rfl⟩;go_wp2;go_ret;exact⟨rfl,.inl ⟨d.out,rfl⟩⟩
 | true=>
  by_cases qa:at_=attempt
  .have d1:(at_ != attempt)=false:=(by rw[qa];simp);have g:Gl x.pl attempt node=x.pl.parts.findIdx? (λp=>decide (p.1=node) && decide (p.2=0)):=(by rw[a];exact Ad ⟨rfl,qa⟩);replace⟨a,g,qa⟩:=H3 a g qa;go_enter func102,ntmps102;go_wp2_with fail;refine j.mono ?_;rintro e w' ⟨rfl,rfl⟩;go_wp2;go_loopw [7,8,30] (λ_ _ i wr=>∃k:Nat,i=Z G k/\k<=pn/\Hid (∀i y,i<k->x.pl.parts[i]?=O y->(decide (y.1=node) && decide (y.2=0))=false)/\wr=w') (λ_ _ i _=>pn-(intOf i).toNat)
   case atStart=>exact⟨0,rfl,As _,(λi y h=>by omega),rfl⟩
   case round=>
    obtain⟨k,rfl,hk,l,rfl⟩:=hrel;by_cases hc:k<pn
    .have am:(k:Int)<pn:=ao9;have aA:(0:Int)<=(k:Int):=ao9;obtain⟨pb,p,e,t,c0,c1⟩:=Rd hp.out (k:=k) (by rw[<-f.out];exact hc);have v:=u.out;rw[e]at v;obtain⟨p1,p2⟩:=p;subst v
     have s:(decide (p1=node) && decide (p2=0))=false->∀i y,i<k+1->x.pl.parts[i]?=O y->(decide (y.1=node) && decide (y.2=0))=false:=λhf i y hi m=>by
      by_cases c:i=k
      .subst c;rw[t]at m;injection m with m;rw[<-m];exact hf
      .exact l.out i y ao9 m
     have o:(decide (p1=node) && decide (p2=0))=true->Gl x.pl attempt node=O k:=λhf=>by
      rw[g.out];exact Atc l.out t hf
     replace⟨t,s,o,e⟩:=H4 t s o e;by_cases r:p1=node
     .have d2:(p1 == node)=true:=(by rw[r];simp);by_cases z:p2=0
      .have d3:(p2 == (0:Int))=true:=(by rw[z];rfl);have m:=o (by simp[r,z]);replace⟨r,z,m⟩:=H3 r z m;go_wp2;go_ret;exact⟨rfl,.inr ⟨k,pb,m.out,e.out,by rw[<-f.out];exact hc,rfl⟩⟩
      .have d3:=Br.2 z;have hn:=s (by simp[z]);replace⟨r,z,hn⟩:=H3 r z hn;go_wp2;go_roundw
       case rel=>exact⟨k+1,by go_num,ao9,hn.out,trivial⟩
       case measure=>simp[intOf];omega
     .have d2:=Br.2 r;have hn:=s (by simp[r]);replace⟨r,hn⟩:=H2 r hn;go_wp2;go_roundw
      case rel=>exact⟨k+1,by go_num,ao9,hn.out,trivial⟩
      case measure=>simp[intOf];omega
    .have am:¬(k:Int)<pn:=ao9
     have d:Gl x.pl attempt node=I:=by rw[g.out];exact Atd (n:=pn) (by rw[hl.out,f.out]) λi y hi m=>l.out i y ao9 m
     replace d:=Hh d;go_wp2;go_ret;exact⟨rfl,.inl ⟨d.out,rfl⟩⟩
  .have d1:(at_ != attempt)=true:=(by rw[Gh];exact qa);have d:Gl x.pl attempt node=I:=(by rw[a];exact Ac (λc=>qa c.2));replace⟨a,d,qa⟩:=H3 a d qa;go_enter func102,ntmps102;go_wp2_with fail;refine j.mono ?_;rintro e w' ⟨rfl,rfl⟩;go_wp2;go_ret;exact⟨rfl,.inl ⟨d.out,rfl⟩⟩
variable {w w':WD} {T:Tv}
def Ao.l6 (h:Ao w T) {j:Nat×aj} (f:j∈T.js) {b:Nat} {c:Array VL} {a:TypeId} (d:w.heap[b]?=O (J c a (0,0))) (h1:a≠46):j.1≠b:=λe=>by
 have:=h.box j f;rw[Bj,e,d]at this;injection this with this;injection this with _ this;exact h1 this
def Ao.gh (h:Ao w T) {b:Nat} {c:Array VL} {d:TypeId} (f:w.heap[b]?=O (J c d (0,0))):T.mb≠b:=λe=>by
 obtain⟨i,g,a⟩:=h.cls.au;rw[e,f]at a;injection a with a;cases a
def Ao.py (h:Ao w T) (e t:Int) (a:Mod (λk=>k=T.tb) w w') (i:w'.heap[T.tb]?=O (J #[Z G e,Z G t,.map (O T.mb),T.nv,T.jv,K (O ⟨T.fb,0,I⟩),T.cv] 115 (0,0))):Ao w' { T with ai:=e,tick:=t }:=by
 have g:T.ax T.tb:=.inl rfl
 have b:Mod T.ax w w':=a.mono λk _ e=>by rw[e];exact g
 refine⟨i,h.cls.mod a (h.gh h.head),Bd h.nodes a (λk e c=>Bv h.nodes h.head ad9 (by rw[<-c];exact e)),Bd h.ab a (λk e c=>Bv h.ab h.head ad9 (by rw[<-c];exact e)),
  Bd h.az a (λk e c=>Bv h.az h.head ad9 (by rw[<-c];exact e)),λj d=>a.au (h.box j d) (h.l6 d h.head ad9),λj d=>?_,h.one,h.two,h.dt.mod b (λ_ c=>.inl c),h.same⟩
 have f:=h.ok j d;exact f.mod b (λ_ _ c=>c) (Bd f.parts a (λk e c=>Bv f.parts h.head ad9 (by rw[<-c];exact e)))
def Ao.r9 (h:Ao w T) (l:List E6) (t:l.length=T.nodes.length) (d:Mod (λk=>T.nv.ownBlock=O k) w w') (q:w'.ownsRow 0 119 3 T.nv l.length (Aw Ez l)):Ao w' { T with nodes:=l }:=by
 have f:Mod T.ax w w':=d.mono λk _ e=>.inr (.inr (.inl e))
 have i:∀k,T.nv.ownBlock=O k->∃c,w.heap[k]?=O (J c 119 (0,0)):=λk e=>by
  obtain⟨c,b,_⟩:=C7 h.nodes e;exact⟨c,b⟩
 have a:∀ {B size n:Nat} {r:TypeId} {v:VL} {xs:List VL},w.ownsRow B r size v n xs->r≠119->∀k,v.ownBlock=O k->¬T.nv.ownBlock=O k:=λq o k s c=>by
  obtain⟨m,b⟩:=i k c;exact Bv q b o s
 refine⟨d.au h.head (λc=>?_),h.cls.mod d (λc=>?_),q,Bd h.ab d (a h.ab ad9),Bd h.az d (a h.az ad9),λj g=>d.au (h.box j g) (λc=>?_),λj g=>?_,h.one,h.two,h.dt.mod f (λ_ c=>.inl c),t.trans h.same⟩
 .obtain ⟨m,b⟩:=i _ c;have:=h.head;rw[b]at this;injection this with this;injection this with _ this;exact absurd this ad9
 .obtain ⟨m,b⟩:=i _ c;exact h.gh b rfl
 .obtain ⟨m,b⟩:=i _ c;exact h.l6 g b ad9 rfl
 .have p:=h.ok j g;exact p.mod f (λ_ _ c=>c) (Bd p.parts d (a p.parts ad9))
def Axh {w:WD} {B size n:Nat} {b:TypeId} {g cap:Nat} {xs:List VL} (h:w.ownsRow B b size (V (O ⟨g,0,I⟩) n cap) n xs) (o:Nat) (v:VL) :
  (w.setCell ⟨g,o,I⟩ v).ownsRow B b size (V (O ⟨g,0,I⟩) n cap) n (xs.set o v):=by
 refine⟨by rw[Dy];exact h.1,?_⟩;rcases h.2 with⟨e,_⟩|⟨l,c,a,e,j,k,h1,d,f,i⟩
 .simp at e
 .simp at e;obtain⟨rfl,rfl⟩:=e;refine .inr ⟨g,cap,a.setIfInBounds o v,rfl,j,Ap k _ _,h1,d,by simpa using f,?_⟩;rw[<-i];simp[List.take_set]
def Axi (b:List E6) (i j:Nat) (v:VL) (f:E6->E6) (d:j<3) (c:∀x:E6,(Ez x).toList.set j v=(Ez (f x)).toList):(Aw Ez b).set (i*3+j) v=Aw Ez (b.modify i f):=by
 induction b generalizing i with
 | nil=>simp[Aw]
 | cons p l ih=>
  have a:∀(q:E6) (m:List E6),Aw Ez (q :: m)=(Ez q).toList++Aw Ez m:=λq m=>by simp[Aw]
  cases i with
  | zero=>
   rw[List.modify_zero_cons,a,a,<-c p,Nat.zero_mul,Db,List.set_append];rw[Ad (by simpa using d)]
  | succ i=>
   rw[Wi,a,a,<-ih,List.set_append];rw[Ac (by simp;omega)];congr 2;simp;omega
end
section
open Go.RowKit Go.Maps Go.Lib
variable {w w1 w':WD} {B:Nat}
def Cr {B:Nat} {a w:WD} (h:BW B a w) {g o:Nat} {v:VL} (c:B<=g):BW B a (w.setCell ⟨g,o,I⟩ v):=
 ⟨h.os,h.tape,h.output,by have:=h.size;simpa[World.setCell]using this,λk b=>(C1 _ _ _ _ (λe=>by simp at e;omega)).trans (h.block k b)⟩
def Ja {n:Int} (h1:-9223372036854775808<=n) (a:n<=9223372036854775807):IntKind.i64.wrap n=n:=by
 simp[IntKind.wrap,IntKind.signed,IntKind.bits];omega
def Am.nil (w:WD) (B:Nat):Am w B (V I 0 0) []:=⟨rfl,.inl ⟨rfl,rfl⟩⟩
def Am.mod {S:Nat->Prop} {v:VL} {l:List Int} (h:Am w B v l) (a:Mod S w w') (b:∀k,v.ownBlock=O k->¬S k):Am w' B v l:=⟨Bd h.row a b⟩
def Am.lt {v:VL} {l:List Int} (h:Am w B v l):∀k,v.ownBlock=O k->B<=k/\k<w.heap.size:=λk a=>h.row.lt k a
def Am.le {v:VL} {l:List Int} {B':Nat} (h:Am w B v l) (a:B'<=B):Am w B' v l:=⟨Joins.ownsRow_le h.row a⟩
def Am.len {v:VL} {l:List Int} (h:Am w B v l):∃so n c,v=V so n c/\n=l.length:=by
 rcases h.row.2 with⟨rfl,h0⟩|⟨g,cap,a,rfl,_⟩
 .exact ⟨I,0,0,rfl,h0.symm⟩
 .exact ⟨_,_,_,rfl,rfl⟩
def Am.cell {g n c:Nat} {l:List Int} (h:Am w B (V (O ⟨g,0,I⟩) n c) l) {i:Nat} {x:Int} (b:l[i]?=O x):w.cell? ⟨g,i,I⟩=O (Z G x):=by
 have p:=(An.1 b).1;rcases h.row.2 with⟨e,_⟩|⟨j,cap,a,e,o,f,h1,k,m,d⟩
 .cases e
 .injection e with e1 e2 e3;injection e1 with e1;injection e1 with e1;subst e1
  have:(a.toList.take (l.length*1))[i]?=O (Z G x):=by rw[d];simp[Bz,b]
  rw[Mp,Ad ao9]at this;simpa[World.cell?,f]using this
def Am.num {g n c:Nat} {l:List Int} (h:Am w B (V (O ⟨g,0,I⟩) n c) l):n=l.length:=by
 obtain⟨so,m,a,e,b⟩:=h.len;injection e with _ e;omega
def Nm {p:Array Oper} {rest:List Oper} {o:Oper} {a:Act} {w:WD} {Q9q:Exit->Act->WD->Prop} (z:o.guard=I) (s x:Operand)
  (ho:o.op=.call { callee:=.builtin .append,args:=#[s,x],argTypes:=#[31,31] })
  (B L:Nat) (v:VL) (hs:a.eval s=v) {l:List Int} (f:Am w B v l) (t:l.length=L) (r:Addr) (c:Nat) (hx:a.eval x=V (O r) 1 c) (k:Int) (hk:w.cell? r=O (Z G k)) (hL:L<=1000000000) (hb:B<=w.heap.size)
  (h:∀g cap w',Am w' B (V (O ⟨g,0,I⟩) (L+1) cap) (l++[k])->w.grownBy w' v.ownBlock->(v.ownBlock=O g\/g=w.heap.size)->wpList prog p Q9q rest (a.put o.dst (V (O ⟨g,0,I⟩) (L+1) cap)) w') :
  wpList prog p Q9q (o :: rest) a w:=by
 obtain⟨i3,ac,al,i,m⟩:=Cf M0;subst t;refine R6 w z s x 31 ho B 3 i3 _ 1 8 Ns ac al i m rfl ad9 v l.length (Bz l) hs f.row r 1 c [Z G k] hx rfl ?_ (by simp[Value.oneCell']) (If (n:=l.length) ao9) ao9 hb ?_
 .intro j u q
  match j,q with
  | 0,q=>
   simp at q;subst q;simpa[Addr.add]using hk
 .intro v' w' b d _ y;obtain⟨g,cap,rfl⟩:=Joins.ownsRow_form b ao9;refine h g cap w' ⟨?_⟩ d ?_
  .rw [Cn];simpa[Bz]using b
  .rcases y with e|e
   .exact .inl e.symm
   .simp [Value.ownBlock]at e;exact .inr e
structure Dg (w:WD) (B g cap:Nat) (svs:List VL) (ls:List (List Int)):Prop where
 row:w.ownsRow B 31 1 (V (O ⟨g,0,I⟩) ls.length cap) ls.length svs
 each:∀(i:Nat) (sv:VL) (l:List Int),svs[i]?=O sv->ls[i]?=O l->Am w B sv l
 two:svs.Pairwise λa b=>∀k,a.ownBlock=O k->b.ownBlock≠O k
 td:ls.length<=cap
variable {g cap:Nat} {svs:List VL} {ls:List (List Int)}
def Dg.len (h:Dg w B g cap svs ls):svs.length=ls.length:=by have:=h.row.1;omega
def Dg.au (h:Dg w B g cap svs ls):B<=g/\g<w.heap.size/\∃c,w.heap[g]?=O (J c 31 (0,0)):=by
 obtain⟨c,a,b⟩:=C7 h.row (g:=g) rfl;exact⟨b,Ab a,c,a⟩
def Dg.get (h:Dg w B g cap svs ls) {i:Nat} (d:i<ls.length):∃so n c l,svs[i]?=O (V so n c)/\ls[i]?=O l/\n=l.length/\w.cell? ⟨g,i,I⟩=O (V so n c)/\Am w B (V so n c) l:=by
 have h1:svs[i]?=O (svs[i]'(by rw[h.len];exact d)):=A3 _;have b:ls[i]?=O ls[i]:=A3 _;have a:=h.each i _ _ h1 b;obtain⟨so,n,c,e,f⟩:=a.len;rw[e]at h1 a;refine⟨so,n,c,_,h1,b,f,?_,a⟩;rw[F0 h.row i ao9,h1]
def Dg.ne (h:Dg w B g cap svs ls) {i:Nat} {a:VL} (d:svs[i]?=O a) {l:List Int} (e:ls[i]?=O l):a.ownBlock≠O g:=by
 obtain⟨_,_,c,b⟩:=h.au;exact Bv (h.each i a l d e).row b ad9
def Dg.low (h:Dg w B g cap svs ls) (a:BW w.heap.size w w'):Dg w' B g cap svs ls:=
 ⟨Bd h.row (Mod.af (S:=λ_=>False) a) (λ_ _ c=>c),λi d l h1 b=>(h.each i d l h1 b).mod (Mod.af (S:=λ_=>False) a) (λ_ _ c=>c),h.two,h.td⟩
def Dg.off {S:Nat->Prop} (h:Dg w B g cap svs ls) (c:Mod S w w') (f:¬S g) (e:∀(i:Nat) (a:VL),svs[i]?=O a->∀k,a.ownBlock=O k->¬S k):Dg w' B g cap svs ls:=
 ⟨Bd h.row c (λk b=>by simp[Value.ownBlock]at b;subst b;exact f),λi a l h1 d=>(h.each i a l h1 d).mod c (λk b=>e i a h1 k b),h.two,h.td⟩
def Axj {svs:List VL} {i:Nat} {v:VL} (h:svs.Pairwise λa b=>∀k,a.ownBlock=O k->b.ownBlock≠O k) (m:∀(j:Nat) (u:VL),svs[j]?=O u->j≠i->∀k,u.ownBlock=O k->v.ownBlock≠O k) :
  (svs.set i v).Pairwise λa b=>∀k,a.ownBlock=O k->b.ownBlock≠O k:=by
 refine L1.2 λa b n o g=>?_;have d:=A3 n;have c:=A3 o;generalize (svs.set i v)[a]=ya at d ⊢;generalize (svs.set i v)[b]=yb at c ⊢;rw[D3]at d c;by_cases h1:i=a
 .subst h1;have f:i≠b:=ao9
  rw[Ac f]at c;simp only[L3]at d;split at d
  .injection d with d;subst d;intro k l e;exact m b yb c ao9 k e l
  .cases d
 .rw [Ac h1]at d;by_cases f:i=b
  .subst f;simp only[L3]at c;split at c
   .injection c with c;subst c;intro k l e;exact m a ya d ao9 k l e
   .cases c
  .rw [Ac f]at c;exact Gm h d c g
def Dg.put (h:Dg w B g cap svs ls) {i:Nat} {y o:VL} {l l':List Int} (r:svs[i]?=O y) (hl:ls[i]?=O l) (hg:w.grownBy w1 y.ownBlock) (ho:Am w1 B o l') (z:∀k,o.ownBlock=O k->y.ownBlock=O k\/k=w.heap.size)
  : Dg (w1.setCell ⟨g,i,I⟩ o) B g cap (svs.set i o) (ls.set i l'):=by
 have hm:=Mod.grown hg (λk f=>f);have t:=h.ne r hl;obtain⟨ac,ad,c,hc⟩:=h.au;have q:=Bd h.row hm (λk f e=>by simp[Value.ownBlock]at f;subst f;exact t e)
 have x:o.ownBlock≠O g:=λe=>by
  rcases z g e with e|e
  .exact t e
  .omega
 have s:=(An.1 r).1;have n:∀ {u:VL} {m:List Int},Am w1 B u m->u.ownBlock≠O g->Am (w1.setCell ⟨g,i,I⟩ o) B u m:=λb hn=>⟨Bd b.row (Mod.setCell (S:=λk=>k=g) w1 g i o rfl) (λk f e=>hn (by rw[f,e]))⟩;refine⟨?_,?_,?_,?_⟩
 .rw [Dy];exact(q.stored i o).1
 .intro j u m b a;rw[D3]at b a;by_cases p:i=j
  .subst p;simp only[L3]at b a;split at b
   .injection b with b;subst b;split at a
    .injection a with a;subst a;exact n ho x
    .cases a
   .rename_i hx;exact absurd s hx
  .rw [Ac p]at b a;have hj:=h.each j u m b a;refine n (hj.mod hm λk f e=>?_) (h.ne b a);rcases R7 p with d|d
   .exact Gm h.two r b d k e f
   .exact Gm h.two b r d k f e
 .refine Axj h.two λj u b v k f e=>?_;rcases z k e with e|e
  .rcases R7 v with d|d
   .exact Gm h.two b r d k f e
   .exact Gm h.two r b d k e f
  .have:j<ls.length:=by rw[<-h.len];exact(An.1 b).1
   have:=((h.each j u _ b (A3 this)).lt k f).2;omega
 .rw [Dy];exact h.td
end
section
open Go.RowKit Go.Maps Go.Lib
variable{d:Nat}{u v:V4}{w wr:WD}
def Adh (n:Int) (w:WD):CS prog 297 #[Z G n] w λe w'=>e=Y (Z G (Fs n))/\w'=w:=by
 go_enter func297,ntmps297;go_wp2;go_ret;exact⟨Adg (by simp[Fs]),rfl⟩
def Qk (n:Int):0<=Fs n/\Fs n<=1152921504606846976:=by unfold Fs;omega
def Ql (d:Nat) (u v:V4):V4:=⟨if 0<d then Kt u.a v.a else 0,if 1<d then Kt u.b v.b else 0,if 2<d then Kt u.c v.c else 0,if 3<d then Kt u.d v.d else 0⟩
structure su (w:WD) (u v:V4) (d:Nat) (wr:WD):Prop where
 low:BW w.heap.size w wr
 b1:wr.heap[w.heap.size]?=O (J u.cells 30 (0,0))
 b2:wr.heap[w.heap.size+1]?=O (J v.cells 30 (0,0))
 res:wr.heap[w.heap.size+2]?=O (J V4.zero.cells 30 (0,0))
 acc:wr.heap[w.heap.size+3]?=O (J (Ql d u v).cells 30 (0,0))
def su.next {w wr w':WD}   (h:su w u v d wr) (a:BW wr.heap.size wr w'):su w u v d w':=
 ⟨h.low.trans (a.mono h.low.size),Ae a h.b1 (Ab h.b1),Ae a h.b2 (Ab h.b2),Ae a h.res (Ab h.res),Ae a h.acc (Ab h.acc)⟩
def su.set    (h:su w u v d wr) (a:d<4):su w u v (d+1) (wr.setCell ⟨w.heap.size+3,d,I⟩ (Z G (Kt (u.get d) (v.get d)))):=
 ⟨Cr h.low ao9,(C1 _ _ _ _ (λe=>by simp at e)).trans h.b1,(C1 _ _ _ _ (λe=>by simp at e)).trans h.b2,(C1 _ _ _ _ (λe=>by simp at e)).trans h.res,by
  have e:(Ql d u v).cells.setIfInBounds d (Z G (Kt (u.get d) (v.get d)))=(Ql (d+1) u v).cells:=by rcases(by omega:d=0\/d=1\/d=2\/d=3)with rfl|rfl|rfl|rfl<;>simp[Ql,V4.get]
  rw[<-e];exact Ap h.acc _ _⟩
def Vm  {b:Nat}  {T:TypeId} {fr:Nat×Nat} (h:w.heap[b]?=O (J v.cells T fr))  (a:d<4):w.cell? ⟨b,d,I⟩=O (Z G (v.get d)):=by
 rw[Aa h d]
 rcases(by omega:d=0\/d=1\/d=2\/d=3)with rfl|rfl|rfl|rfl<;>rfl
def Axz (u v:V4)  (a:d<4):(Ql d u v).get d=0:=by
 rcases(by omega:d=0\/d=1\/d=2\/d=3)with rfl|rfl|rfl|rfl<;>simp[Ql,V4.get]
def Ak1 (u v:V4) (w:WD):CS prog 252 #[u.val,v.val] w λe w'=>e=Y (Ld u v).val/\BW w.heap.size w w':=by
 obtain⟨W0,h⟩:=Ex ((((w.alloc (J u.cells 30)).alloc (J v.cells 30)).alloc (J #[Z G 0,Z G 0,Z G 0,Z G 0] 30)).alloc (J #[Z G 0,Z G 0,Z G 0,Z G 0] 30));have g:su w u v 0 W0:=by rw[h];exact⟨((Bn.alloc as9 _).alloc (by simp;omega) _).alloc (by simp;omega) _,Aj _ (Aj _ (Aj _ (Ah _ _))),Aj _ (Aj _ (A6 _ _ as9)),Aj _ (A6 _ _ as9),A6 _ _ as9⟩
 replace g:=Hh g;go_enter func252,ntmps252;go_upto_region 2 with fail;rw[<-h];clear h;go_wp2_with fail;go_loopw [6,7] (λ_ iv wr=>∃(d:Nat),iv=Z G d/\d<=4/\Hid (su w u v d wr)) (λ_ iv _=>4-(intOf iv).toNat)
 case atStart=>exact⟨0,rfl,ao9,g⟩
 case round=>
  obtain⟨d,rfl,al,b⟩:=hrel;by_cases c:d<4
  .have ac:(d:Int)<4:=ao9;have ad:(0:Int)<=(d:Int):=ao9;obtain⟨x,p⟩:=Ex (u.get d);obtain⟨y,q⟩:=Ex (v.get d);have u0:=p▸Vm b.b1 c;have v0:=q▸Vm b.b2 c;have z0:=(Vm b.acc c).trans (by rw[Axz _ _ c]);have fr:=Ag b.acc
   have i:∀n,su w u v (d+1) ((wr.drewN n).setCell ⟨w.heap.size+3,d,I⟩ (Z G (Kt x y))):=λn=>by
    rw[p,q];exact(b.next (A4 _ wr n)).set c
   have r:=Adh x;have s:=Adh y
   have m:∀W,CS prog 297 #[Z G (IntKind.i64.wrap (Fs x+Fs y))] W λe w'=>e=Y (Z G (Kt x y))/\w'=W:=by rw[Ja (by have:=Qk x;have:=Qk y;omega) (by have:=Qk x;have:=Qk y;omega)];exact Adh (Fs x+Fs y)
   obtain⟨r1,j⟩:=Ex (Fs x);obtain⟨r2,k⟩:=Ex (Fs y);obtain⟨r3,l⟩:=Ex (Kt x y);rw[<-j]at r m;rw[<-k]at s m;rw[<-l]at m i;replace⟨i,r,s,m,j,k,l,p⟩:=H8 i r s m j k l p;replace q:=Hh q;go_upto_region 5 with fail
   go_region_with (first
    | (go_at_call 297;((with_reducible refine(r.out _).mono ?_);rintro e w1 ⟨rfl,rfl⟩))
    | (go_at_call 297;((with_reducible refine(s.out _).mono ?_);rintro e w1 ⟨rfl,rfl⟩))
    | (go_at_call 297;((with_reducible refine(m.out _).mono ?_);rintro e w1 ⟨rfl,rfl⟩)))
   all_goals
    go_wp2_with fail;go_roundw
    case rel=>exact⟨d+1,by go_num,ao9,Hh (by first|exact i.out 0|exact i.out 1|exact i.out 2|exact i.out 3)⟩
    case measure=>simp[intOf];omega
  .have t:d=4:=ao9;subst t;obtain⟨z,o⟩:=Ex (Ql 4 u v);have f:z=Ld u v:=(by rw[o];simp[Ql,Ld]);rw[f]at o;obtain⟨za,zb,zc,zd⟩:=z;have a:=b.acc;rw[<-o,<-f]at a;have u0:=Bk a 0 (Z G za) rfl;have u1:=Bk a 1 (Z G zb) rfl;have u2:=Bk a 2 (Z G zc) rfl;have u3:=Bk a 3 (Z G zd) rfl;have r0:=Bk b.res 0 (Z G 0) rfl;have r1:=Bk b.res 1 (Z G 0) rfl;have r2:=Bk b.res 2 (Z G 0) rfl;have r3:=Bk b.res 3 (Z G 0) rfl;have fr:=Ag b.res;replace⟨o,f,a⟩:=H3 o f a;go_wp2;refine Al (v:=V4.val ⟨za,zb,zc,zd⟩) (by simp[results,results252,go_sem,r0,r1,r2,r3]) rfl ⟨by rw[<-f.out],?_⟩;exact Cr (Cr (Cr (Cr b.low ao9) ao9) ao9) ao9
end
section
open Go.ChangeShapes Go.WideShapes Go.ChangeAt Go.RowKit
def Pk {n:Int} (h:(Lit.int G n).wf=true):-9223372036854775808<=n/\n<=9223372036854775807:=by
 simp[Lit.wf,IntKind.min,IntKind.max,IntKind.signed,IntKind.bits]at h;omega
def A16:prog.cellsOf 4=1:=by kernel_rfl
def A17:prog.cellsOf 31=1:=by kernel_rfl
def Am6:prog.cellsOf 33=13:=by kernel_rfl
def A18 {α:Type} {l:List α} (h:l.length=13):∃a b c d e f g i j k m n o,l=[a,b,c,d,e,f,g,i,j,k,m,n,o]:=by
 match l,h with
 | [a,b,c,d,e,f,g,i,j,k,m,n,o],_=>exact⟨a,b,c,d,e,f,g,i,j,k,m,n,o,rfl⟩
section
variable {H:Type} {enc:TypeId×VL->H} {w:WD} {held:Bool} {fuel:Nat} {cs:List VL} {x:DataW H×List MemPlace}
def A19 {c:VL} (h:DataW.trod enc prog w 0 (λ_=>true) held fuel 31 [c]=O x):∃a n d xs,c=V a n d/\At w a n xs/\n<=d:=by
 obtain⟨a,n,d,xs,e,g,l⟩:=Abz (0:Int) (λs=>#[Z G s]) 1 (λ_ _=>True) Ns Q7 ad9 (λ_=>rfl) (λfuel cs x h=>by
  obtain⟨s,e,_⟩:=Jn Ed h
  exact⟨s,e,trivial⟩) h
 refine⟨a,n,d,xs,e,⟨g.len,g.max,λi x m=>?_⟩,l⟩;obtain⟨b,j,e,f,k,_⟩:=g.cell i x m;have:=k 0 ao9;rw[Sh,Jo]at this;exact⟨b,j,e,f,this⟩
def A2a (h:DataW.trod enc prog w 0 (λ_=>true) held fuel 33 cs=O x):∃a:ay,cs=a.cells.toList/\a.ok w:=by
 obtain⟨xs,n,_,rfl,hl,c,b⟩:=DataW.trod_struct underlying33 h;rw[Am6]at hl;obtain⟨c0,c1,c2,c3,c4,c5,c6,c7,c8,c9,ac,ad,al,rfl⟩:=A18 hl
 match xs,c with
 | [y0,y1,y2,y3,y4,y5,y6,y7,y8,y9],_=>
  have h0:=b 0 _ rfl;have h1:=b 1 _ rfl;have s:=b 2 _ rfl;have t:=b 3 _ rfl;have u:=b 4 _ rfl;have y:=b 5 _ rfl;have z:=b 6 _ rfl;have h7:=b 7 _ rfl;have h8:=b 8 _ rfl;have h9:=b 9 _ rfl;simp[Arf,Ag3,Q7,A16,A17]at h0 h1 s t u y z h7 h8 h9;obtain⟨s0,g,_,e⟩:=DataW.trod_string Ev h0;obtain⟨s1,i,_,f⟩:=DataW.trod_string Ev h1;obtain⟨n2,j,_⟩:=Jn Ed s;obtain⟨v,r⟩:=Arj t;obtain⟨n4,k,_⟩:=Jn Ed u;obtain⟨n5,l,_⟩:=Jn Ed y;obtain⟨n6,o,_⟩:=Jn Ed z;obtain⟨n7,p,_⟩:=Jn Ed h7;obtain⟨b8,q,_⟩:=DataW.trod_bool Aad h8;obtain⟨so,m,cp,zs,rfl,hz,d⟩:=A19 h9;simp at g i j r k l o p q;obtain⟨rfl,rfl,rfl,rfl⟩:=r;subst g i j k l o p q;exact⟨⟨⟨s0,s1,n2,v,n4,n5,n6,n7,b8,zs⟩,so,m,cp⟩,rfl,⟨hz,d,e,f⟩⟩
end
section
variable {H:Type} {enc:TypeId×VL->H} {w:WD} {held:Bool} {b0:Nat} {r:Reach} {v:VL} {d:DataW H} {p:List MemPlace}
