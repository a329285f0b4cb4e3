/- Parts of a proof. No condition. -/
import Derived.Test.YtimlcnhcjndijaaGreatDoorF13
import Derived.Test.YtimlcnhcjndijaaGreatDoorF06
set_option linter.all false
set_option maxRecDepth 100000
set_option maxHeartbeats 1600000
namespace Go.Proofs.YtimlcnhcjndijaaGreatDoor
open Go renaming Value->VL
open Go.Proofs.Tryz
section
open Go.ChangeShapes Go.WideShapes Go.ChangeAt Go.RowKit
def Qc:prog.cellsOf 3=1:=by kernel_rfl
def An3:prog.cellsOf 9=1:=by kernel_rfl
def Aem:prog.cellsOf 30=4:=by kernel_rfl
def An4 {α:Type} {l:List α} (h:l.length=4):∃ a b c d,l=[a,b,c,d]:=by
 match l,h with
 | [a,b,c,d],_=>exact ⟨a,b,c,d,rfl⟩
def An5 {α:Type} {n:Nat} {p:Nat->α->Prop} (z:α) (h:∀ i,i<n->∃ x,p i x):∃ f:Nat->α,∀ i,i<n->p i (f i):=
 ⟨fun i=>if a:i<n then (h i a).choose else z,fun i a=>by simp only [a,dif_pos];exact (h i a).choose_spec⟩
def An6 (b a k:Nat):(⟨b,a,none⟩:Addr).add k=⟨b,a+k,none⟩:=by unfold Addr.add;cases k<;>rfl
structure Aen {α:Type} (cells:α->Array VL) (sz:Nat) (ok:World->α->Prop) (w:World) (so:Option Addr) (n:Nat) (xs:List α):Prop where
 len:xs.length=n
 max:n<=9223372036854775807
 cell:∀ i x,xs[i]?=some x->∃ b off,so=some ⟨b,off,none⟩/\b<w.heap.size/\(∀ j,j<sz->w.cell? ⟨b,off+i*sz+j,none⟩=(cells x)[j]?)/\ok w x
section
variable {H:Type} {enc:TypeId×VL->H} {w:World} {held:Bool} {fuel:Nat} {cs:List VL} {x:DataW H×List MemPlace}
def Z6 {α:Type} (z:α) (cells:α->Array VL) (sz:Nat) (ok:World->α->Prop) {T E:TypeId} (hU:prog.underlying T=some (.slice E)) (u:prog.cellsOf E=sz) (h0:0<sz) (al:∀ a,(cells a).size=sz)
  (q:∀ (fuel:Nat) (cs:List VL) (x:DataW H×List MemPlace),DataW.trod enc prog w 0 (fun _=>true) held fuel E cs=some x->∃ a,cs=(cells a).toList/\ok w a)
  {c:VL} (h:DataW.trod enc prog w 0 (fun _=>true) held fuel T [c]=some x):∃ ao n cp xs,c=.slice ao n cp/\Aen cells sz ok w ao n xs/\n<=cp:=by
 rcases Go.Deep.open_slice hU h with ⟨d,_⟩ | ⟨a,k,cap,m,n,D,Pl,d,_,hl,hm,ac,_,hi⟩
 .simp at d;exact ⟨none,0,0,[],d,⟨rfl,by omega,fun i x r=>by simp at r⟩,Nat.le_refl _⟩
 .simp at d;have mx:maxLen=9223372036854775807:=by kernel_rfl
  have ap:m=cap:=by simpa using ac
  have u:∀ i,i<k->∃ x:α,ok w x/\∀ j,j<sz->w.cell? (a.add (i*sz+j))=(cells x)[j]?:=fun i g=>by
   obtain ⟨an,v,ht⟩:=hi i (by omega);obtain ⟨x,rfl,ok⟩:=q _ _ _ ht;obtain ⟨_,_,p⟩:=World.cells?_some v;rw [u] at p;exact ⟨x,ok,fun j y=>by rw [<- Go.Deep.add_add,p j y];simp⟩
  obtain ⟨f,l⟩:=An5 z u;refine ⟨some a,k,cap,(List.range k).map f,d,⟨by simp,by rw [mx] at hm;omega,fun i x r=>?_⟩,hl⟩;have g:i<k:=by have:=(Ao.1 r).1;simpa using this
  have am:x=f i:=by rw [Bh,List.getElem?_range g] at r;simpa using r.symm
  subst am
  have hz:∀ i,i<k->(cells (f i))[0]?=some ((cells (f i))[0]'(by rw [al];exact h0)):=fun i _=>by
   rw [Oo]
  have o:=(l 0 (by omega)).2 0 h0;rw [hz 0 (by omega)] at o;obtain ⟨b,s,t⟩:=a;have ad:t=none:=by simpa [Addr.add] using World.cell?_spot o
  subst ad
  have e:∀ j,j<sz->w.cell? ⟨b,s+i*sz+j,none⟩=(cells (f i))[j]?:=fun j y=>by
   rw [<- (l i g).2 j y,An6,Nat.add_assoc]
  have e0:=e 0 h0;rw [hz i g] at e0;exact ⟨b,s,rfl,S6 w _ e0,e,(l i g).1⟩
def An7 (h:DataW.trod enc prog w 0 (fun _=>true) held fuel 30 cs=some x):∃ v:V4,cs=v.cells.toList:=by
 obtain ⟨xs,m,_,_,j,t,o⟩:=DataW.trod_array Y5 h;rw [Aem] at j;obtain ⟨b,d,f,g,rfl⟩:=An4 j
 have a:∀ i,i<4->∀ c:VL,(([b,d,f,g].drop (i*prog.cellsOf 3)).take (prog.cellsOf 3))=[c]->∃ n,c=.int .i64 n:=fun i k c l=>by
  have h1:=o i k;rw [l,A4 (by omega)] at h1;obtain ⟨n,e,_⟩:=In D2 h1;exact ⟨n,by simpa using e⟩
 obtain ⟨p,rfl⟩:=a 0 (by omega) b (by simp [Qc]);obtain ⟨q,rfl⟩:=a 1 (by omega) d (by simp [Qc]);obtain ⟨r,rfl⟩:=a 2 (by omega) f (by simp [Qc]);obtain ⟨s,rfl⟩:=a 3 (by omega) g (by simp [Qc]);exact ⟨⟨p,q,r,s⟩,rfl⟩
end
section
variable {H:Type} {enc:TypeId×VL->H} {w:World} {held:Bool} {b0:Nat} {r:Reach} {v:VL} {d:DataW H} {p:List MemPlace}
