/- corveeref03.Cut: a text's pieces; corveeref03.Right. -/
import Derived.Test.YtimlcnhcjndijaaGreatDoorQ04
import Derived.Lib.SmallJoins
import Derived.Deep.DeepCutAuto
set_option linter.all false
set_option maxRecDepth 100000
set_option maxHeartbeats 1600000
namespace Go.Proofs.YtimlcnhcjndijaaGreatDoor
open Go.RowKit
structure Fx (w:World) (so:Option Addr) (n:Nat) (xs:List ByteArray):Prop where
 len:xs.length=n
 max:n<=9223372036854775807
 cell:∀ i x,xs[i]?=some x->∃ b off,so=some ⟨b,off,none⟩/\b<w.heap.size/\w.cell? ⟨b,off+i,none⟩=some (.string x)
def Fx.below {w w':World} {B:Nat} {so:Option Addr} {n:Nat} {xs:List ByteArray} (h:Fx w so n xs) (d:Below B w w') (j:w.heap.size<=B):Fx w' so n xs:=
 ⟨h.len,h.max,fun i x f=>by
  obtain ⟨b,a,e,c,g⟩:=h.cell i x f
  exact ⟨b,a,e,Br c d.size,(Ag d (by omega)).trans g⟩⟩
def Fx.low {w w':World} {so:Option Addr} {n:Nat} {xs:List ByteArray} (h:Fx w so n xs) (a:Below w.heap.size w w'):Fx w' so n xs:=h.below a Ln
def Fx.get {w:World} {so:Option Addr} {n:Nat} {xs:List ByteArray} (h:Fx w so n xs) {i:Nat} (a:i<n):∃ x,xs[i]?=some x:=⟨_,Am (by rw [h.len];exact a)⟩
def Ajm {w:World} {base g cap n m size:Nat} {e:TypeId} {xs:List Value} (h:w.ownsRow base e size (.slice (some ⟨g,0,none⟩) n cap) m xs):m<=cap:=by
 rcases h.2 with ⟨a,_⟩ | ⟨f,b,c,a,_,_,d,_⟩
 .cases a
 .cases a;exact d
def Ajn {w:World} {base g cap n m size:Nat} {e:TypeId} {xs:List Value} (h:w.ownsRow base e size (.slice (some ⟨g,0,none⟩) n cap) m xs):∃ c,w.heap[g]?=some (.cells c e (0,0)):=by
 rcases h.2 with ⟨a,_⟩ | ⟨i,d,b,a,_,f,_,_⟩
 .cases a
 .cases a;exact ⟨b,f⟩
def Ajo {w:World} {base g cap n:Nat} {xs:List ByteArray} (h:w.ownsRow base 9 1 (.slice (some ⟨g,0,none⟩) n cap) n (xs.map .string)) (b:n<=9223372036854775807):Fx w (some ⟨g,0,none⟩) n xs:=by
 have c:xs.length=n:=by have:=h.1;simpa using this
 refine ⟨c,b,fun i x a=>?_⟩;have d:=(Aq.1 a).1;refine ⟨g,0,rfl,(h.lt g rfl).2,?_⟩;rw [D2,Gr h i (by omega),Bx,a];rfl
def Ajp {w:World} {b:Nat} {xs:List ByteArray} {fr:Nat×Nat} (h:w.heap[b]?=some (.cells (xs.map Value.string).toArray 9 fr)) (a:xs.length<=9223372036854775807):Fx w (some ⟨b,0,none⟩) xs.length xs:=
 ⟨rfl,a,fun i x c=>⟨b,0,rfl,Ab h,by rw [D2,Aa h];simp [c]⟩⟩
def Fx.sub {w:World} {b a n:Nat} {xs:List ByteArray} (h:Fx w (some ⟨b,a,none⟩) n xs) (k:Nat) (j:k<=n):Fx w (some ⟨b,a+k,none⟩) (n-k) (xs.drop k):=
 ⟨by rw [G7,h.len],by have:=h.max;omega,fun i x d=>by
  rw [Ol] at d;obtain ⟨l,f,e,c,g⟩:=h.cell (k+i) x d;cases e
  exact ⟨b,a+k,rfl,c,by rw [Nat.add_assoc];exact g⟩⟩
def Abi:(Tryz.prog.info? 9).map (fun i=>(i.zero,i.size,i.bytes))=some (some (.string ByteArray.empty),1,16):=by kernel_rfl
def Je {n:Nat} (h:n<=9000000000):n+1<=maxLen:=by have:maxLen=9223372036854775807:=rfl;omega
end Go.Proofs.YtimlcnhcjndijaaGreatDoor
