/- corveeref03.Right: whether an amount may be. -/
import Derived.Test.YteoihdkaoipocaaDoorVec
import Derived.Test.YteoihdkaoipocaaDoorFct
namespace Go.Proofs.YteoihdkaoipocaaDoor
open Go.RowKit

set_option maxRecDepth 100000 in
set_option maxHeartbeats 1600000 in
theorem rright_any (v : V4) (w : World) : Calls Tryd.prog 35 #[v.val] w fun e w' => e = .returned (.bool v.right) ∧ Below w.heap.size w w' := by
  obtain ⟨a, b, c, d⟩ := v
  go_enter Tryd.func35, Tryd.ntmps35
  go_wp2
  all_goals
    go_ret
    refine ⟨congrArg Ending.returned (congrArg Value.bool (?_ : (_ : Bool) = _)), (Below.refl _ _).alloc (Nat.le_refl _) _⟩
    rw [Bool.eq_iff_iff]
    simp [V4.right, okn]
    try omega
end Go.Proofs.YteoihdkaoipocaaDoor
