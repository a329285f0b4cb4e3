/- Does one of the spans go beyond the tick 2000: what the function on a row of acts answers. Condition: the row of acts lies in memory. -/
import Derived.Test.YtpjajiambbobhaaTaken
namespace Go.Proofs.Ytpjajiambbobhaa
open Go.ChangeShapes Go.WideShapes Go.RowKit

def LatePost (acts : List Act6) (w : World) (e : Ending) (w' : World) : Prop :=
  ∃ b : Bool, e = .returned (.bool b) ∧ (b = false → ∀ i, i < acts.length → (act acts i).tt ≤ 2000) ∧ Below w.heap.size w w'

set_option maxRecDepth 100000 in
set_option maxHeartbeats 1600000 in
theorem late_any (sv : Value) (acts : List Act6) (w : World) (ha : ActsAt w sv acts) : Calls Try.prog 29 #[sv] w (LatePost acts w) := by
  obtain ⟨ao, cap, rfl, hal, hac⟩ := ha
  replace hac := Lib.hid hac
  go_enter Try.func29, Try.ntmps29
  go_wp2
  go_loopw [3] (fun i wr => ∃ k : Nat, i = .int .i64 k ∧ k ≤ acts.length ∧ Hid (∀ i, i < k → (act acts i).tt ≤ 2000) ∧ Hid (Below w.heap.size w wr)) (fun i _ => acts.length - (intOf i).toNat)
  case atStart => exact ⟨0, rfl, Nat.zero_le _, (fun i h => by omega), Below.refl _ _⟩
  case round =>
    obtain ⟨k, rfl, hk, hall, hBr⟩ := hrel
    by_cases hc : k < acts.length
    · have hc1 : (k : Int) < acts.length := by omega
      have hk0 : (0 : Int) ≤ (k : Int) := by omega
      obtain ⟨b, off, rfl, hb, a0, a1, a2, a3, a4, a5, a6⟩ := hac.out k hc
      have b2 := (below_cell hBr.out hb).trans a2
      clear a0 a1 a2 a3 a4 a5 a6
      obtain ⟨x, hx⟩ : ∃ x, x = (act acts k).tt := ⟨_, rfl⟩
      rw [← hx] at b2
      by_cases h2 : 2000 < x
      · have hd : decide (2000 < x) = true := by simpa using h2
        replace hx := Lib.hid hx
        go_wp2
        go_ret
        exact ⟨true, rfl, (fun h => absurd h (by simp)), hBr.out⟩
      · have hd : decide (2000 < x) = false := by simpa using h2
        have hnx : (act acts k).tt ≤ 2000 := by omega
        replace hx := Lib.hid hx; replace hnx := Lib.hid hnx
        go_wp2
        go_roundw
        case rel =>
          refine ⟨k + 1, by go_num, by omega, ?_, hBr.out⟩
          intro i hi
          by_cases e : i = k
          · subst e; exact hnx.out
          · exact hall.out i (by omega)
        case measure => simp [intOf]; omega
    · have hc1 : ¬ (k : Int) < acts.length := by omega
      go_wp2
      go_ret
      exact ⟨false, rfl, fun _ i hi => hall.out i (by omega), hBr.out⟩
end Go.Proofs.Ytpjajiambbobhaa
