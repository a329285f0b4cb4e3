/- corveeref03.Text: an amount as a text. -/
import Derived.Test.YteoihdkaoipocaaDoorDig
namespace Go.Proofs.YteoihdkaoipocaaDoor
open Go.RowKit

/-- an amount as a text -/
def txtV (v : V4) : List UInt8 := Lib.itoa v.a ++ [44] ++ Lib.itoa v.b ++ [44] ++ Lib.itoa v.c ++ [44] ++ Lib.itoa v.d
structure V64 (v : V4) : Prop where
  a : -9223372036854775808 ≤ v.a ∧ v.a ≤ 9223372036854775807
  b : -9223372036854775808 ≤ v.b ∧ v.b ≤ 9223372036854775807
  c : -9223372036854775808 ≤ v.c ∧ v.c ≤ 9223372036854775807
  d : -9223372036854775808 ≤ v.d ∧ v.d ≤ 9223372036854775807
theorem txtV_len {v : V4} (h : V64 v) : (txtV v).length ≤ 83 := by
  have a := itoa_len h.a.1 h.a.2
  have b := itoa_len h.b.1 h.b.2
  have c := itoa_len h.c.1 h.c.2
  have d := itoa_len h.d.1 h.d.2
  simp [txtV]
  omega
set_option maxRecDepth 100000 in
set_option maxHeartbeats 400000 in
theorem rtext_any (v : V4) (hv : V64 v) (w : World) : Calls Tryd.prog 37 #[v.val] w fun e w' => e = .returned (.string (ofL (txtV v))) ∧ Below w.heap.size w w' := by
  obtain ⟨va, vb, vc, vd⟩ := v
  have ca := fun w => digits_any va hv.a.1 hv.a.2 w
  have cb := fun w => digits_any vb hv.b.1 hv.b.2 w
  have cc := fun w => digits_any vc hv.c.1 hv.c.2 w
  have cd := fun w => digits_any vd hv.d.1 hv.d.2 w
  have la := itoa_len hv.a.1 hv.a.2
  have lb := itoa_len hv.b.1 hv.b.2
  have lc := itoa_len hv.c.1 hv.c.2
  have ld := itoa_len hv.d.1 hv.d.2
  rw [← ofL_size] at la lb lc ld
  obtain ⟨A, hA⟩ : ∃ A, A = ofL (Lib.itoa va) := ⟨_, rfl⟩
  obtain ⟨B, hB⟩ : ∃ B, B = ofL (Lib.itoa vb) := ⟨_, rfl⟩
  obtain ⟨C, hC⟩ : ∃ C, C = ofL (Lib.itoa vc) := ⟨_, rfl⟩
  obtain ⟨D, hD⟩ : ∃ D, D = ofL (Lib.itoa vd) := ⟨_, rfl⟩
  simp only at la lb lc ld
  rw [← hA] at ca la
  rw [← hB] at cb lb
  rw [← hC] at cc lc
  rw [← hD] at cd ld
  replace hA := Lib.hid hA; replace hB := Lib.hid hB; replace hC := Lib.hid hC; replace hD := Lib.hid hD; replace hv := Lib.hid hv; replace ca := Lib.hid ca; replace cb := Lib.hid cb; replace cc := Lib.hid cc; replace cd := Lib.hid cd
  go_enter Tryd.func37, Tryd.ntmps37
  go_wp2
  go_quiet (first
    | ((go_at_call 78; (with_reducible exact Calls.quiet_of_same (ca.out _))))
    | ((go_at_call 78; (with_reducible exact Calls.quiet_of_same (cb.out _))))
    | ((go_at_call 78; (with_reducible exact Calls.quiet_of_same (cc.out _))))
    | ((go_at_call 78; (with_reducible exact Calls.quiet_of_same (cd.out _)))))
  go_wp2
  go_ret
  refine ⟨?_, ((Below.refl _ _).alloc (Nat.le_refl _) _).trans (below_dn _ _ _)⟩
  show Ending.returned (.string (A ++ ({ data := #[44] } : ByteArray) ++ B ++ ({ data := #[44] } : ByteArray) ++ C ++ ({ data := #[44] } : ByteArray) ++ D)) = _
  rw [hA.out, hB.out, hC.out, hD.out, show ({ data := #[44] } : ByteArray) = ofL [44] from rfl, ofL_app, ofL_app, ofL_app, ofL_app, ofL_app, ofL_app]
  rfl
end Go.Proofs.YteoihdkaoipocaaDoor
