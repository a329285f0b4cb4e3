/- What an argument that is a row of nodes reads as, opened. Plain theorems: no condition. -/
import Derived.Test.YtimlcnhcjndijaaGreatDoorQ15
import Derived.Test.YtimlcnhcjndijaaGreatDoorQ07
set_option linter.all false
set_option maxRecDepth 100000
set_option maxHeartbeats 1600000
namespace Go.Proofs.YtimlcnhcjndijaaGreatDoor
open Go.ChangeShapes Go.WideShapes Go.ChangeAt Go.RowKit
def P4:Tryz.prog.cellsOf 3=1:=by kernel_rfl
def Alc:Tryz.prog.cellsOf 9=1:=by kernel_rfl
def Aca:Tryz.prog.cellsOf 30=4:=by kernel_rfl
def Ald {α:Type} {l:List α} (h:l.length=4):∃ a b c d,l=[a,b,c,d]:=by
 match l,h with
 | [a,b,c,d],_=>exact ⟨a,b,c,d,rfl⟩
def Ale {α:Type} {n:Nat} {p:Nat->α->Prop} (z:α) (h:∀ i,i<n->∃ x,p i x):∃ f:Nat->α,∀ i,i<n->p i (f i):=
 ⟨fun i=>if a:i<n then (h i a).choose else z,fun i a=>by simp only [a,dif_pos];exact (h i a).choose_spec⟩
def Alf (b a k:Nat):(⟨b,a,none⟩:Addr).add k=⟨b,a+k,none⟩:=by unfold Addr.add;cases k<;>rfl
structure Acb {α:Type} (cells:α->Array Value) (sz:Nat) (ok:World->α->Prop) (w:World) (so:Option Addr) (n:Nat) (xs:List α):Prop where
 len:xs.length=n
 max:n<=9223372036854775807
 cell:∀ i x,xs[i]?=some x->∃ b off,so=some ⟨b,off,none⟩/\b<w.heap.size/\(∀ j,j<sz->w.cell? ⟨b,off+i*sz+j,none⟩=(cells x)[j]?)/\ok w x
section
variable {H:Type} {enc:TypeId×Value->H} {w:World} {held:Bool} {fuel:Nat} {cs:List Value} {x:DataW H×List MemPlace}
def Acc {α:Type} (z:α) (cells:α->Array Value) (sz:Nat) (ok:World->α->Prop) {T E:TypeId} (hU:Tryz.prog.underlying T=some (.slice E)) (v:Tryz.prog.cellsOf E=sz) (h0:0<sz) (y:∀ a,(cells a).size=sz)
  (p:∀ (l:Nat) (cs:List Value) (x:DataW H×List MemPlace),DataW.trod enc Tryz.prog w 0 (fun _=>true) held l E cs=some x->∃ a,cs=(cells a).toList/\ok w a)
  {c:Value} (h:DataW.trod enc Tryz.prog w 0 (fun _=>true) held fuel T [c]=some x):∃ ao n cp xs,c=.slice ao n cp/\Acb cells sz ok w ao n xs/\n<=cp:=by
 rcases Go.Deep.open_slice hU h with ⟨d,_⟩ | ⟨a,g,cap,m,n,D,Pl,d,_,hl,hm,ac,_,hi⟩
 .simp at d;exact ⟨none,0,0,[],d,⟨rfl,by omega,fun i x q=>by simp at q⟩,Nat.le_refl _⟩
 .simp at d;have mx:maxLen=9223372036854775807:=by kernel_rfl
  have an:m=cap:=by simpa using ac
  have v:∀ i,i<g->∃ x:α,ok w x/\∀ j,j<sz->w.cell? (a.add (i*sz+j))=(cells x)[j]?:=fun i k=>by
   obtain ⟨ap,ad,ht⟩:=hi i (by omega);obtain ⟨x,rfl,ok⟩:=p _ _ _ ht;obtain ⟨_,_,r⟩:=World.cells?_some ad;rw [v] at r;exact ⟨x,ok,fun j hj=>by rw [<- Go.Deep.add_add,r j hj];simp⟩
  obtain ⟨f,o⟩:=Ale z v;refine ⟨some a,g,cap,(List.range g).map f,d,⟨by simp,by rw [mx] at hm;omega,fun i x q=>?_⟩,hl⟩;have k:i<g:=by have:=(Aq.1 q).1;simpa using this
  have al:x=f i:=by rw [Bx,List.getElem?_range k] at q;simpa using q.symm
  subst al
  have hz:∀ i,i<g->(cells (f i))[0]?=some ((cells (f i))[0]'(by rw [y];exact h0)):=fun i _=>by
   rw [Pk]
  have s:=(o 0 (by omega)).2 0 h0;rw [hz 0 (by omega)] at s;obtain ⟨b,t,u⟩:=a;have am:u=none:=by simpa [Addr.add] using World.cell?_spot s
  subst am
  have e:∀ j,j<sz->w.cell? ⟨b,t+i*sz+j,none⟩=(cells (f i))[j]?:=fun j hj=>by
   rw [<- (o i k).2 j hj,Alf,Nat.add_assoc]
  have e0:=e 0 h0;rw [hz i k] at e0;exact ⟨b,t,rfl,Su w _ e0,e,(o i k).1⟩
def Alg (h:DataW.trod enc Tryz.prog w 0 (fun _=>true) held fuel 30 cs=some x):∃ v:V4,cs=v.cells.toList:=by
 obtain ⟨xs,m,_,_,b,t,k⟩:=DataW.trod_array Tryz.underlying30 h;rw [Aca] at b;obtain ⟨d,f,g,j,rfl⟩:=Ald b
 have a:∀ i,i<4->∀ c:Value,(([d,f,g,j].drop (i*Tryz.prog.cellsOf 3)).take (Tryz.prog.cellsOf 3))=[c]->∃ n,c=.int .i64 n:=fun i l c o=>by
  have h1:=k i l;rw [o,Am (by omega)] at h1;obtain ⟨n,e,_⟩:=G8 Da h1;exact ⟨n,by simpa using e⟩
 obtain ⟨p,rfl⟩:=a 0 (by omega) d (by simp [P4]);obtain ⟨q,rfl⟩:=a 1 (by omega) f (by simp [P4]);obtain ⟨r,rfl⟩:=a 2 (by omega) g (by simp [P4]);obtain ⟨s,rfl⟩:=a 3 (by omega) j (by simp [P4]);exact ⟨⟨p,q,r,s⟩,rfl⟩
end
section
variable {H:Type} {enc:TypeId×Value->H} {w:World} {held:Bool} {b0:Nat} {r:Reach} {v:Value} {d:DataW H} {p:List MemPlace}
end
end Go.Proofs.YtimlcnhcjndijaaGreatDoor
