/- (*fleet.Fleet).Len, Index. -/
import Derived.Test.YteoihdkaoipocaaDoorPut
namespace Go.Proofs.YteoihdkaoipocaaDoor
open Go.RowKit Go.Maps

theorem fl_len {w : World} {fb mb base : Nat} {nv : Value} {xs : List Nde} (h : FlW w fb mb base nv xs) : ∀ ty w, (Builtin.len_ #[42] ty #[nv]).run Tryd.prog w = .ok (.int .i64 (xs.length : Int)) w := fun ty w => by
  rcases Joins.ownsRow_forms h.row with ⟨rfl, h0⟩ | ⟨g, cap, rfl⟩
  · rw [h0]; simp [go_sem, Tryd.underlying42]
  · simp [go_sem, Tryd.underlying42]
set_option maxRecDepth 100000 in
theorem len_any (w : World) (fb mb base : Nat) (nv : Value) (xs : List Nde) (hF : FlW w fb mb base nv xs) : Calls Tryd.prog 38 #[.pointer (some ⟨fb, 0, none⟩)] w fun e w' => e = .returned (.int .i64 (xs.length : Int)) ∧ w' = w := by
  have hln := fl_len hF
  have f0 := blk_cell hF.head 0
  simp at f0
  go_enter Tryd.func38, Tryd.ntmps38
  go_wp2
  go_ret
  exact ⟨rfl, rfl⟩
set_option maxRecDepth 100000 in
theorem len_nil (w : World) : Calls Tryd.prog 38 #[.pointer none] w fun e w' => e = .returned (.int .i64 0) ∧ w' = w := by
  go_enter Tryd.func38, Tryd.ntmps38
  go_wp2
  go_ret
  exact ⟨rfl, rfl⟩
/-- where a name stands: the last place; -1: nowhere -/
theorem index_nil (s : ByteArray) (w : World) : Calls Tryd.prog 57 #[.pointer none, .string s] w fun e w' => e = .returned (.int .i64 (-1)) ∧ w' = w := by
  go_enter Tryd.func57, Tryd.ntmps57
  go_wp2
  go_ret
  exact ⟨rfl, rfl⟩
set_option maxRecDepth 100000 in
theorem index_any (w : World) (fb mb base : Nat) (nv : Value) (xs : List Nde) (s : ByteArray) (hF : FlW w fb mb base nv xs) (hs : s.size ≤ maxLen) : Calls Tryd.prog 57 #[.pointer (some ⟨fb, 0, none⟩), .string s] w fun e w' => (∃ i, e = .returned (.int .i64 i) ∧ ((i = -1 ∧ s ∉ xs.map Nde.name) ∨ (s ∈ xs.map Nde.name ∧ (mapD (xs.map Nde.name)).atKey (keyB s) (.lit (.int .i64 0)) = .lit (.int .i64 i)))) ∧ w' = w := by
  obtain ⟨c, hlk, hat⟩ := fl_look hF s hs
  have hh := mapD_has (xs.map Nde.name) s
  obtain ⟨b, hb⟩ : ∃ b, b = has (mapD (xs.map Nde.name)) (keyB s) := ⟨_, rfl⟩
  rw [← hb] at hlk hh
  have f1 := blk_cell hF.head 1
  simp at f1
  have hh' := Lib.hid hh
  clear hh
  replace hb := Lib.hid hb; replace hat := Lib.hid hat
  cases b with
  | false =>
    go_enter Tryd.func57, Tryd.ntmps57
    go_wp2
    go_ret
    exact ⟨⟨-1, rfl, .inl ⟨rfl, fun h => by have := hh'.out.2 h; cases this⟩⟩, rfl⟩
  | true =>
    go_enter Tryd.func57, Tryd.ntmps57
    go_wp2
    go_ret
    exact ⟨⟨c, rfl, .inr ⟨(by have := hh'.out.1 (by trivial); simpa using this), hat.out⟩⟩, rfl⟩
end Go.Proofs.YteoihdkaoipocaaDoor
