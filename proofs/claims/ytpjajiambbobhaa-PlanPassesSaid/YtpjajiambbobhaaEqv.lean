/- Two amounts held against one another. -/
import Derived.Test.YtpjajiambbobhaaCompp
import Derived.ChangeKeysEq
namespace Go.Proofs.Ytpjajiambbobhaa
open Go.RowKit
theorem eqi (d : Nat) (a b : Int) (w : World) : (Op.equalIn (d + 1) 3 (.int .i64 a) (.int .i64 b)).run Try.prog w = .ok (a == b) w := by
  simp [Op.equalIn, run_underlying Try.underlying3]
theorem info3 : (Try.prog.info? 3).map (fun i => (i.zero, i.size, i.bytes)) = some (some (.int .i64 0), 1, 8) := by kernel_rfl
theorem cells3 : Try.prog.cellsOf 3 = 1 := by kernel_rfl
theorem eq23d (dd : Nat) (u v : V4) (w : World) : (Op.equalIn (dd + 2) 23 u.val v.val).run Try.prog w = .ok (decide (u = v)) w := by
  obtain ⟨i0, hi0, hz0, hz1, hz2⟩ := info_parts info3
  show (Op.equalIn ((dd + 1) + 1) 23 u.val v.val).run Try.prog w = _
  rw [run_equalIn_array w (dd + 1) _ _ Try.underlying23 hi0, cells3]
  show (Op.eqItems (dd + 1) 3 1 _ _ [0, 1, 2, 3]).run Try.prog w = _
  obtain ⟨a, b, c, d⟩ := u
  obtain ⟨a', b', c', d'⟩ := v
  by_cases h1 : a = a' <;> by_cases h2 : b = b' <;> by_cases h3 : c = c' <;> by_cases h4 : d = d'
  all_goals
    simp [Op.eqItems, eqi, part, sizeOf, typeInfo, hi0, hz1, h1, h2, h3, h4]
theorem eq23 (u v : V4) (w : World) : (Op.equalIn 10000 23 u.val v.val).run Try.prog w = .ok (decide (u = v)) w := eq23d 9998 u v w
end Go.Proofs.Ytpjajiambbobhaa
