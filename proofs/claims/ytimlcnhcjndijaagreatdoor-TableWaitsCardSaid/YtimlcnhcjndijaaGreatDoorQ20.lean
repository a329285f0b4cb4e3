/- code.Uint, code.Int, code.Text: numbers and texts put behind bytes. Plain theorems: no condition. -/
import Derived.Test.YtimlcnhcjndijaaGreatDoorQ19
import Derived.Test.YtimlcnhcjndijaaGreatDoorQ05
import Derived.Lib.VarintMem
import Derived.Laws.CopyOwn
set_option linter.all false
set_option maxRecDepth 100000
set_option maxHeartbeats 1600000
namespace Go.Proofs.YtimlcnhcjndijaaGreatDoor
open Go.RowKit Go.Maps
structure Iv (w:World) (so:Option Addr) (n:Nat) (l:List UInt8):Prop where
 len:l.length=n
 max:n<=9223372036854775807
 cell:∀ i x,l[i]?=some x->∃ b off,so=some ⟨b,off,none⟩/\b<w.heap.size/\w.cell? ⟨b,off+i,none⟩=some (.int .u8 x.toNat)
def Iv.low {w w':World} {so:Option Addr} {n:Nat} {l:List UInt8} (h:Iv w so n l) (d:Below w.heap.size w w'):Iv w' so n l:=
 ⟨h.len,h.max,fun i x f=>by
  obtain ⟨b,c,e,a,g⟩:=h.cell i x f
  exact ⟨b,c,e,Br a d.size,(Ag d a).trans g⟩⟩
def Al2 (w:World):Iv w none 0 []:=⟨rfl,by omega,fun i x h=>by simp at h⟩
end Go.Proofs.YtimlcnhcjndijaaGreatDoor
