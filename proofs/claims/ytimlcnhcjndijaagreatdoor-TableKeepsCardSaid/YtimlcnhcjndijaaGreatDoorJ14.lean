/- Parts of a proof. No condition. -/
import Derived.Test.YtimlcnhcjndijaaGreatDoorJ13
import Derived.Test.YtimlcnhcjndijaaGreatDoorJ06
set_option linter.all false
set_option maxRecDepth 100000
set_option maxHeartbeats 1600000
namespace Go.Proofs.YtimlcnhcjndijaaGreatDoor
open Option renaming none->I,some->O
open Value renaming slice->V,int->Z
open IntKind renaming i64->G
open Go renaming Value->VL
open Go.Proofs.Tryz
section
open Go.ChangeShapes Go.WideShapes Go.ChangeAt Go.RowKit
def Q7:prog.cellsOf 3=1:=by kernel_rfl
def Arf:prog.cellsOf 9=1:=by kernel_rfl
def Ag3:prog.cellsOf 30=4:=by kernel_rfl
def Arg {α:Type} {l:List α} (h:l.length=4):∃a b c d,l=[a,b,c,d]:=by
 match l,h with
 | [a,b,c,d],_=>exact⟨a,b,c,d,rfl⟩
def Arh {α:Type} {n:Nat} {p:Nat->α->Prop} (z:α) (h:∀i,i<n->∃x,p i x):∃f:Nat->α,∀i,i<n->p i (f i):=
 ⟨λi=>if a:i<n then(h i a).choose else z,λi a=>by simp only[a,dif_pos];exact(h i a).choose_spec⟩
def Ari (b a k:Nat):(⟨b,a,I⟩:Addr).add k=⟨b,a+k,I⟩:=by unfold Addr.add;cases k<;>rfl
structure Ag4 {α:Type} (cells:α->Array VL) (sz:Nat) (ok:World->α->Prop) (w:World) (so:Option Addr) (n:Nat) (xs:List α):Prop where
 len:xs.length=n
 max:n<=9223372036854775807
 cell:∀i x,xs[i]?=O x->∃b off,so=O ⟨b,off,I⟩/\b<w.heap.size/\(∀j,j<sz->w.cell? ⟨b,off+i*sz+j,I⟩=(cells x)[j]?)/\ok w x
section
variable {H:Type} {enc:TypeId×VL->H} {w:World} {held:Bool} {fuel:Nat} {cs:List VL} {x:DataW H×List MemPlace}
def Abz {α:Type} (z:α) (cells:α->Array VL) (sz:Nat) (ok:World->α->Prop) {T E9q:TypeId} (hU:prog.underlying T=O (.slice E9q)) (u:prog.cellsOf E9q=sz) (h0:0<sz) (al:∀a,(cells a).size=sz)
  (q:∀(fuel:Nat) (cs:List VL) (x:DataW H×List MemPlace),DataW.trod enc prog w 0 (λ_=>true) held fuel E9q cs=O x->∃a,cs=(cells a).toList/\ok w a)
  {c:VL} (h:DataW.trod enc prog w 0 (λ_=>true) held fuel T [c]=O x):∃ao n cp xs,c=V ao n cp/\Ag4 cells sz ok w ao n xs/\n<=cp:=by
 rcases Go.Deep.open_slice hU h with⟨d,_⟩|⟨a,k,cap,m,n,D0,Pl,d,_,hl,hm,ac,_,hi⟩
 .simp at d;exact⟨I,0,0,[],d,⟨rfl,ao9,λi x r=>by simp at r⟩,Nat.le_refl _⟩
 .simp at d;have mx:maxLen=9223372036854775807:=by kernel_rfl
  have ap:m=cap:=by simpa using ac
  have u:∀i,i<k->∃x:α,ok w x/\∀j,j<sz->w.cell? (a.add (i*sz+j))=(cells x)[j]?:=λi g=>by
   obtain⟨an,v,ht⟩:=hi i ao9;obtain⟨x,rfl,ok⟩:=q _ _ _ ht;obtain⟨_,_,p⟩:=World.cells?_some v;rw[u]at p;exact⟨x,ok,λj y=>by rw[<-Go.Deep.add_add,p j y];simp⟩
  obtain⟨f,l⟩:=Arh z u;refine⟨O a,k,cap,(List.range k).map f,d,⟨as9,by rw[mx]at hm;omega,λi x r=>?_⟩,hl⟩;have g:i<k:=by have:=(An.1 r).1;simpa using this
  have am:x=f i:=by rw[A7,List.getElem?_range g]at r;simpa using r.symm
  subst am
  have hz:∀i,i<k->(cells (f i))[0]?=O ((cells (f i))[0]'(by rw[al];exact h0)):=λi _=>by
   rw[Pn]
  have o:=(l 0 ao9).2 0 h0;rw[hz 0 ao9]at o;obtain⟨b,s,t⟩:=a;have ad:t=I:=by simpa[Addr.add]using World.cell?_spot o
  subst ad
  have e:∀j,j<sz->w.cell? ⟨b,s+i*sz+j,I⟩=(cells (f i))[j]?:=λj y=>by
   rw[<-(l i g).2 j y,Ari,Nat.add_assoc]
  have e0:=e 0 h0;rw[hz i g]at e0;exact⟨b,s,rfl,T3 w _ e0,e,(l i g).1⟩
def Arj (h:DataW.trod enc prog w 0 (λ_=>true) held fuel 30 cs=O x):∃v:V4,cs=v.cells.toList:=by
 obtain⟨xs,m,_,_,j,t,o⟩:=DataW.trod_array Aay h;rw[Ag3]at j;obtain⟨b,d,f,g,rfl⟩:=Arg j
 have a:∀i,i<4->∀c:VL,(([b,d,f,g].drop (i*prog.cellsOf 3)).take (prog.cellsOf 3))=[c]->∃n,c=Z G n:=λi k c l=>by
  have h1:=o i k;rw[l,A3 ao9]at h1;obtain⟨n,e,_⟩:=Jn Ed h1;exact⟨n,by simpa using e⟩
 obtain⟨p,rfl⟩:=a 0 ao9 b (by simp[Q7]);obtain⟨q,rfl⟩:=a 1 ao9 d (by simp[Q7]);obtain⟨r,rfl⟩:=a 2 ao9 f (by simp[Q7]);obtain⟨s,rfl⟩:=a 3 ao9 g (by simp[Q7]);exact⟨⟨p,q,r,s⟩,rfl⟩
end
section
variable {H:Type} {enc:TypeId×VL->H} {w:World} {held:Bool} {b0:Nat} {r:Reach} {v:VL} {d:DataW H} {p:List MemPlace}
