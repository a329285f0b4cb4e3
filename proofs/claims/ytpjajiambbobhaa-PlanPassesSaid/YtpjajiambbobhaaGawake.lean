/- corveelaw07.awake: the document's example of a pool answers as the document says. -/
import Derived.Test.YtpjajiambbobhaaGawp
import Derived.Test.YtpjajiambbobhaaNewg
namespace Go.Proofs.Ytpjajiambbobhaa
open Go.RowKit

theorem two_vecs (w : World) : VecsAt (w.alloc (.cells #[.int .i64 2, .int .i64 0, .int .i64 0, .int .i64 0, .int .i64 2, .int .i64 0, .int .i64 0, .int .i64 0] 23 (0, 0))) (some ⟨w.heap.size, 0, none⟩) 2 [two4, two4] := by
  refine ⟨rfl, by omega, fun i hi => ⟨w.heap.size, 0, rfl, by simp, ?_⟩⟩
  have hb := fun o => blk_cell (blk_new w (.cells #[.int .i64 2, .int .i64 0, .int .i64 0, .int .i64 0, .int .i64 2, .int .i64 0, .int .i64 0, .int .i64 0] 23 (0, 0))) o
  have : i = 0 ∨ i = 1 := by omega
  rcases this with rfl | rfl
  · exact ⟨hb 0, hb 1, hb 2, hb 3⟩
  · exact ⟨hb 4, hb 5, hb 6, hb 7⟩
theorem one_int (w : World) (a : Int) : IntsAt (w.alloc (.cells #[.int .i64 a] 3 (0, 0))) (some ⟨w.heap.size, 0, none⟩) 1 [a] := by
  refine ⟨rfl, by omega, fun i hi => ⟨w.heap.size, 0, rfl, by simp, ?_⟩⟩
  have : i = 0 := by omega
  subst this
  exact blk_cell (blk_new w _) 0
theorem two_ints (w : World) (a b : Int) : IntsAt (w.alloc (.cells #[.int .i64 a, .int .i64 b] 3 (0, 0))) (some ⟨w.heap.size, 0, none⟩) 2 [a, b] := by
  refine ⟨rfl, by omega, fun i hi => ⟨w.heap.size, 0, rfl, by simp, ?_⟩⟩
  have hb := fun o => blk_cell (blk_new w (.cells #[.int .i64 a, .int .i64 b] 3 (0, 0))) o
  have : i = 0 ∨ i = 1 := by omega
  rcases this with rfl | rfl
  · exact hb 0
  · exact hb 1

set_option maxRecDepth 100000 in
set_option maxHeartbeats 800000 in
theorem gawake_any (w : World) : Calls Try.prog 33 #[] w fun e w' => e = .returned (.bool true) ∧ Below w.heap.size w w' := by
  go_enter Try.func33, Try.ntmps33
  go_wp2_with fail
  refine (newg_any _ 2 2 [two4, two4] _ (two_vecs w)).mono ?_
  rintro e w2 (⟨h, _⟩ | ⟨_, _, gb, gs, po, cap, ps, rfl, hgb, hp, hlen, hst, hmine, hb2⟩)
  · refine absurd ⟨by omega, fun i hi => ?_⟩ h
    have : i = 0 ∨ i = 1 := by omega
    rcases this with rfl | rfl <;> decide
  clear hgb
  have hB2 : Below w.heap.size w w2 := ((Below.refl _ _).alloc (Nat.le_refl _) _).trans (hb2.mono (by simp))
  have hst2 : ∀ i, i < 2 → (nd ps i).whole = two4 ∧ (nd ps i).l = [⟨0, two4⟩] := fun i hi => by
    have h := hst i hi
    have : i = 0 ∨ i = 1 := by omega
    rcases this with rfl | rfl <;> exact h
  have s2 := hB2.size
  have hlow : ∀ b, Mine ps b → w.heap.size ≤ b := fun b hb => by have := hmine b hb; simp at this; omega
  have hz2 := one_int w2 0
  have hp2 := hp.below ((Below.refl _ _).alloc (Nat.le_refl _) (.cells #[.int .i64 0] 3 (0, 0)))
  have ho2 : Off (some ⟨w2.heap.size, 0, none⟩) (Mine ps) := fun b off e hm => by cases e; have := hp.mine_lt hm; omega
  have htk := gtake_any gb gs cap po ps _ 1 1 [0] 0 4 ⟨1, 0, 0, 0⟩ _ hp2 hz2 (fun _ => ho2) (Nat.le_refl _)
  replace htk := Lib.hid htk; replace hp := Lib.hid hp; replace hst := Lib.hid hst; replace hst2 := Lib.hid hst2; replace hmine := Lib.hid hmine; replace hb2 := Lib.hid hb2; replace hB2 := Lib.hid hB2; replace hlow := Lib.hid hlow; replace hz2 := Lib.hid hz2; replace hp2 := Lib.hid hp2; replace ho2 := Lib.hid ho2; replace hlen := Lib.hid hlen
  go_wp2_with fail
  refine htk.out.mono ?_
  rintro e w3 ⟨r, ps', rfl, hT, hp3, hk3, hm3⟩
  obtain ⟨rfl, h0, h1⟩ := awk_take hlen.out hst2.out hT
  have hlen3 : ps'.length = 2 := hk3.len.trans hlen.out
  have hloose : ∀ i, i < 2 → Loose (nd ps' i).l := fun i hi => (hp3.inv i (by omega)).loose
  have hB3 : Below w.heap.size w w3 := below_mod (hB2.out.alloc s2 _) hm3 hlow.out (by simp; omega)
  have s3 := hB3.size
  have hp3a := hp3.below ((Below.refl _ _).alloc (Nat.le_refl _) (.cells #[.int .i64 0, .int .i64 1] 3 (0, 0)))
  have hf := find_any gb gs cap po ps' _ 2 2 [0, 1] 2 two4 3 0 _ hp3a (two_ints w3 0 1)
  replace hf := Lib.hid hf; replace hT := Lib.hid hT; replace hp3 := Lib.hid hp3; replace hk3 := Lib.hid hk3; replace hm3 := Lib.hid hm3; replace h0 := Lib.hid h0; replace h1 := Lib.hid h1; replace hlen3 := Lib.hid hlen3; replace hloose := Lib.hid hloose; replace hB3 := Lib.hid hB3; replace hp3a := Lib.hid hp3a
  go_wp2_with fail
  refine hf.out.mono ?_
  rintro e w4 ⟨t, so, n, c, xs, is, rfl, hR, hz4, hnc, hso, hb4⟩
  obtain ⟨rfl, hxl, rfl⟩ := awk_find1 hlen3.out hloose.out h0.out h1.out hR
  have hn : n = 2 := by rw [← hz4.len]; simp [ints, hxl]
  subst hn
  have hB4 : Below w.heap.size w w4 := (hB3.out.alloc s3 _).trans (hb4.mono (by simp; omega))
  have s4 := hB4.size
  have hp4 := hp3a.out.below hb4
  have hp4a := hp4.below ((Below.refl _ _).alloc (Nat.le_refl _) (.cells #[.int .i64 1, .int .i64 0] 3 (0, 0)))
  have hg := find_any gb gs cap po ps' _ 2 2 [1, 0] 1 two4 3 0 _ hp4a (two_ints w4 1 0)
  replace hg := Lib.hid hg; replace hR := Lib.hid hR; replace hz4 := Lib.hid hz4; replace hnc := Lib.hid hnc; replace hso := Lib.hid hso; replace hb4 := Lib.hid hb4; replace hB4 := Lib.hid hB4; replace hp4 := Lib.hid hp4; replace hp4a := Lib.hid hp4a; replace hxl := Lib.hid hxl
  go_wp2_with fail
  refine hg.out.mono ?_
  rintro e w5 ⟨t, so2, n2, c2, xs2, is2, rfl, hR5, hz5, hnc5, hso5, hb5⟩
  obtain ⟨rfl, rfl, rfl⟩ := awk_find2 hlen3.out hloose.out h0.out h1.out hR5
  have hn : n2 = 1 := by rw [← hz5.len]; rfl
  subst hn
  have hB5 : Below w.heap.size w w5 := (hB4.out.alloc s4 _).trans (hb5.mono (by simp; omega))
  obtain ⟨b, off, rfl, hlt, hc⟩ := hz5.cell 0 (by omega)
  rw [Nat.add_zero, show zi (ints [1]) 0 = 1 from rfl] at hc
  replace hR5 := Lib.hid hR5; replace hz5 := Lib.hid hz5; replace hnc5 := Lib.hid hnc5; replace hso5 := Lib.hid hso5; replace hb5 := Lib.hid hb5; replace hB5 := Lib.hid hB5
  go_wp2
  go_ret
  exact ⟨rfl, hB5.out⟩
end Go.Proofs.Ytpjajiambbobhaa
