/- Parts of a proof. No condition. -/
import Derived.Test.YtimlcnhcjndijaaGreatDoorG14
import Derived.Test.YtimlcnhcjndijaaGreatDoorG07
set_option linter.all false
set_option maxRecDepth 100000
set_option maxHeartbeats 1600000
namespace Go.Proofs.YtimlcnhcjndijaaGreatDoor
open Option renaming none->I,some->Z
open Value renaming slice->J,int->G
open IntKind renaming i64->O
open Go renaming Value->VL
open Go.Proofs.Tryz
section
open Go.ChangeShapes Go.WideShapes Go.ChangeAt Go.RowKit
def Q5:prog.cellsOf 3=1:=by kernel_rfl
def Aqk:prog.cellsOf 9=1:=by kernel_rfl
def Agw:prog.cellsOf 30=4:=by kernel_rfl
def Aql {α:Type} {l:List α} (h:l.length=4):∃a b c d,l=[a,b,c,d]:=by
 match l,h with
 | [a,b,c,d],_=>exact⟨a,b,c,d,rfl⟩
def Aqm {α:Type} {n:Nat} {p:Nat->α->Prop} (z:α) (h:∀i,i<n->∃x,p i x):∃f:Nat->α,∀i,i<n->p i (f i):=
 ⟨λi=>if a:i<n then(h i a).choose else z,λi a=>by simp only[a,Mb];exact(h i a).choose_spec⟩
def Aqn (b a k:Nat):(⟨b,a,I⟩:Addr).add k=⟨b,a+k,I⟩:=by unfold Addr.add;cases k<;>rfl
structure Agx {α:Type} (cells:α->Array VL) (sz:Nat) (ok:World->α->Prop) (w:World) (so:Option Addr) (n:Nat) (xs:List α):Prop where
 len:xs.length=n
 max:n<=9223372036854775807
 cell:∀i x,xs[i]?=Z x->∃b off,so=Z ⟨b,off,I⟩/\b<w.heap.size/\(∀j,j<sz->w.cell? ⟨b,off+i*sz+j,I⟩=(cells x)[j]?)/\ok w x
section
variable {H:Type} {enc:TypeId×VL->H} {w:World} {held:Bool} {fuel:Nat} {cs:List VL} {x:DataW H×List MemPlace}
def Aby {α:Type} (z:α) (cells:α->Array VL) (sz:Nat) (ok:World->α->Prop) {T E9q:TypeId} (hU:prog.underlying T=Z (.slice E9q)) (u:prog.cellsOf E9q=sz) (h0:0<sz) (af:∀a,(cells a).size=sz)
  (q:∀(fuel:Nat) (cs:List VL) (x:DataW H×List MemPlace),DataW.trod enc prog w 0 (λ_=>true) held fuel E9q cs=Z x->∃a,cs=(cells a).toList/\ok w a)
  {c:VL} (h:DataW.trod enc prog w 0 (λ_=>true) held fuel T [c]=Z x):∃ao n cp xs,c=J ao n cp/\Agx cells sz ok w ao n xs/\n<=cp:=by
 rcases Go.Deep.open_slice hU h with⟨d,_⟩|⟨a,k,cap,m,n,D0,Pl,d,_,hl,hm,ac,_,hi⟩
 .simp at d;exact⟨I,0,0,[],d,⟨rfl,ao9,λi x r=>by simp at r⟩,Nat.le_refl _⟩
 .simp at d;have mx:maxLen=9223372036854775807:=by kernel_rfl
  have an:m=cap:=by simpa using ac
  have u:∀i,i<k->∃x:α,ok w x/\∀j,j<sz->w.cell? (a.add (i*sz+j))=(cells x)[j]?:=λi g=>by
   obtain⟨am,v,ht⟩:=hi i ao9;obtain⟨x,rfl,ok⟩:=q _ _ _ ht;obtain⟨_,_,p⟩:=World.cells?_some v;rw[u]at p;exact⟨x,ok,λj y=>by rw[<-Go.Deep.add_add,p j y];simp⟩
  obtain⟨f,l⟩:=Aqm z u;refine⟨Z a,k,cap,(List.range k).map f,d,⟨as9,by rw[mx]at hm;omega,λi x r=>?_⟩,hl⟩;have g:i<k:=by have:=(Aq.1 r).1;simpa using this
  have al:x=f i:=by rw[Bg,List.getElem?_range g]at r;simpa using r.symm
  subst al
  have hz:∀i,i<k->(cells (f i))[0]?=Z ((cells (f i))[0]'(by rw[af];exact h0)):=λi _=>by
   rw[O6]
  have o:=(l 0 ao9).2 0 h0;rw[hz 0 ao9]at o;obtain⟨b,s,t⟩:=a;have ad:t=I:=by simpa[Addr.add]using World.cell?_spot o
  subst ad
  have e:∀j,j<sz->w.cell? ⟨b,s+i*sz+j,I⟩=(cells (f i))[j]?:=λj y=>by
   rw[<-(l i g).2 j y,Aqn,Nat.add_assoc]
  have e0:=e 0 h0;rw[hz i g]at e0;exact⟨b,s,rfl,Uc w _ e0,e,(l i g).1⟩
def Aqo (h:DataW.trod enc prog w 0 (λ_=>true) held fuel 30 cs=Z x):∃v:V4,cs=v.cells.toList:=by
 obtain⟨xs,m,_,_,j,t,o⟩:=DataW.trod_array Aas h;rw[Agw]at j;obtain⟨b,d,f,g,rfl⟩:=Aql j
 have a:∀i,i<4->∀c:VL,(([b,d,f,g].drop (i*prog.cellsOf 3)).take (prog.cellsOf 3))=[c]->∃n,c=G O n:=λi k c l=>by
  have h1:=o i k;rw[l,A4 ao9]at h1;obtain⟨n,e,_⟩:=Is D5 h1;exact⟨n,by simpa using e⟩
 obtain⟨p,rfl⟩:=a 0 ao9 b (by simp[Q5]);obtain⟨q,rfl⟩:=a 1 ao9 d (by simp[Q5]);obtain⟨r,rfl⟩:=a 2 ao9 f (by simp[Q5]);obtain⟨s,rfl⟩:=a 3 ao9 g (by simp[Q5]);exact⟨⟨p,q,r,s⟩,rfl⟩
end
section
variable {H:Type} {enc:TypeId×VL->H} {w:World} {held:Bool} {b0:Nat} {r:Reach} {v:VL} {d:DataW H} {p:List MemPlace}
