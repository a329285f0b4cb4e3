/- corveelaw06.ProfileGives, walked: it answers true. Conditions: the row of acts lies in memory; the act's tick is a machine's number. -/
import Derived.Test.YtpjajiambbobhaaEarlp
import Derived.Test.YtpjajiambbobhaaBack
namespace Go.Proofs.Ytpjajiambbobhaa
open Go.RowKit

set_option maxRecDepth 100000 in
set_option maxHeartbeats 3200000 in
theorem gives_any (whole : V4) (sv : Value) (acts : List Act6) (a : Act6) (w : World) (ha : ActsAt w sv acts) (hfr : a.fr ≤ 9223372036854775807) :
    Calls Try.prog 5 #[whole.val, sv, a.val] w fun e w' => e = .returned (.bool true) ∧ Below w.heap.size w w' := by
  obtain ⟨ao, capA, hsv, hal, hac⟩ := id ha
  subst hsv
  replace ha := Lib.hid ha
  replace hac := Lib.hid hac
  obtain ⟨n, hn⟩ : ∃ n, n = acts.length := ⟨_, rfl⟩
  rw [← hn]
  replace ha : Hid (ActsAt w (.slice ao n capA) acts) := by rw [hn]; exact ha.out
  replace hn := Lib.hid hn
  clear hal
  go_enter Try.func5, Try.ntmps5
  go_wp2_with fail
  refine (awake_any _).mono ?_
  rintro e w1 ⟨rfl, hb1⟩
  have hB1 : Below w.heap.size w w1 := (((Below.refl _ _).alloc (Nat.le_refl _) _).alloc (by simp) _).trans (hb1.mono (by simp; omega))
  have hK1 : Keeps [(w.heap.size + 1, a.obj), (w.heap.size, whole.obj)] w1 := by
    have h0 : Keeps [(w.heap.size, whole.obj)] (w.alloc whole.obj) := (Keeps.nil w).alloc _
    have h1 := h0.alloc a.obj
    simp at h1
    exact h1.below hb1
  obtain ⟨x0, x1, x2, x3⟩ := v4_cells (hK1.get (w.heap.size) whole.obj (by simp))
  have s1 := hB1.size
  have hlt1 : w.heap.size + 1 < w1.heap.size := hK1.lt (w.heap.size + 1, a.obj) (by simp)
  replace hB1 := Lib.hid hB1; replace hb1 := Lib.hid hb1; replace hK1 := Lib.hid hK1
  go_wp2_with fail
  refine (taken_any whole _ acts _ (ha.out.below hB1.out)).mono ?_
  rintro e w2 (⟨hw, rfl, hb2⟩ | ⟨pb, sb, cap, l, k, rfl, hp2, hin, hlate, hk, hpb, hsb, hb2⟩)
  · have hB2 : Below w.heap.size w w2 := hB1.out.trans (hb2.mono s1)
    replace hB2 := Lib.hid hB2; replace hb2 := Lib.hid hb2; replace hw := Lib.hid hw
    go_wp2
    go_ret
    exact ⟨rfl, hB2.out⟩
  clear x0 x1 x2 x3 hlate
  have hB2 : Below w.heap.size w w2 := hB1.out.trans (hb2.mono s1)
  have hK2 := hK1.out.below hb2
  obtain ⟨y1, y2, y3, y4, y5, y6⟩ := act_cells (hK2.get (w.heap.size + 1) a.obj (by simp))
  have s2 := hB2.size
  have t2 := hb2.size
  replace hB2 := Lib.hid hB2; replace hb2 := Lib.hid hb2; replace hK2 := Lib.hid hK2; replace hp2 := Lib.hid hp2; replace hin := Lib.hid hin
  by_cases hz : n = 0
  · have h0 : ((n : Int) == 0) = true := by rw [hz]; rfl
    replace hz := Lib.hid hz
    go_wp2
    go_ret
    exact ⟨rfl, hB2.out⟩
  have h0 : ((n : Int) == 0) = false := beq_eq_false_iff_ne.2 (by omega)
  have hc1 : (0 : Int) < n := by omega
  have hc2 : 0 < n := by omega
  obtain ⟨b, off, rfl, hb, a0, a1, a2, a3, a4, a5, a6⟩ := hac.out 0 (by rw [← hn.out]; omega)
  clear a0
  simp at a1 a2 a3 a4 a5 a6
  -- Earliest
  go_wp2_with fail
  refine (early_any pb sb cap whole l a.fr a.tt a.v _ hp2.out hin.out.loose hfr).mono ?_
  rintro e w3 ⟨t, is, rfl, hR, hb3⟩
  have hB3 : Below w.heap.size w w3 := hB2.out.trans (hb3.mono s2)
  have hK3 := hK2.out.below hb3
  have hp3 := hp2.out.below hb3 hp2.out.lt.1 hp2.out.lt.2
  have s3 := hB3.size
  have t3 := hb3.size
  have hlt3 : w.heap.size + 1 < w3.heap.size := hK3.lt (w.heap.size + 1, a.obj) (by simp)
  clear y1 y2 y3 y4 y5 y6
  have b1 := (below_cell hB3 hb).trans a1; have b2 := (below_cell hB3 hb).trans a2; have b3 := (below_cell hB3 hb).trans a3
  have b4 := (below_cell hB3 hb).trans a4; have b5 := (below_cell hB3 hb).trans a5; have b6 := (below_cell hB3 hb).trans a6
  clear a1 a2 a3 a4 a5 a6
  obtain ⟨x, hx⟩ : ∃ x, x = act acts 0 := ⟨_, rfl⟩
  rw [← hx] at b1 b2 b3 b4 b5 b6
  clear hx
  replace hR := Lib.hid hR
  replace hB3 := Lib.hid hB3; replace hb3 := Lib.hid hb3; replace hK3 := Lib.hid hK3; replace hp3 := Lib.hid hp3
  -- Give
  go_wp2_with fail
  go_region_held3 (fun w' => w'.cell? ⟨b, off + 1, none⟩ = some (.int .i64 x.fr) ∧ w'.cell? ⟨b, off + 2, none⟩ = some (.int .i64 x.tt) ∧ w'.cell? ⟨b, off + 3, none⟩ = some (.int .i64 x.v.a) ∧
      w'.cell? ⟨b, off + 4, none⟩ = some (.int .i64 x.v.b) ∧ w'.cell? ⟨b, off + 5, none⟩ = some (.int .i64 x.v.c) ∧ w'.cell? ⟨b, off + 6, none⟩ = some (.int .i64 x.v.d))
    (first
      | (go_keep; done)
      | (go_split_ands; refine ⟨?_, ?_, ?_, ?_, ?_, ?_⟩ <;> (rw [World.cell?_of_block (w := w3) (hmb.out b hb)]; assumption)))
    (first
      | (go_at_call 25
         refine (give_any pb sb cap whole l x.fr x.tt x.v _ hp3.out.drew hin.out.loose).mono ?_
         rintro e w4 ⟨r, sb4, cap4, l4, rfl, hR4, hp4, hs4, hm4⟩
         have hmb : Hid (∀ b, b < w.heap.size → w4.heap[b]? = w3.heap[b]?) := fun b hb => hm4.block b (by simp; omega) (by omega)
         replace hR4 := Lib.hid hR4; replace hp4 := Lib.hid hp4; replace hs4 := Lib.hid hs4; replace hm4 := Lib.hid hm4))
  obtain ⟨hin4, hG⟩ := give_facts hin.out hR4.out
  have hB4 : Below w.heap.size w w4 := below_mod hB3.out.drew hm4.out (fun k h => by rcases h with h | h <;> omega) (by simpa using s3)
  have hK4 : Keeps [(w.heap.size + 1, a.obj), (w.heap.size, whole.obj)] w4 := hK3.out.drew.mod hm4.out (by
    intro p hp
    simp at hp
    rcases hp with rfl | rfl <;> simp only <;> omega)
  have s4 := hB4.size
  have hlt4 : w.heap.size + 1 < w4.heap.size := hK4.lt (w.heap.size + 1, a.obj) (by simp)
  clear b1 b2 b3 b4 b5 b6
  obtain ⟨y1, y2, y3, y4, y5, y6⟩ := act_cells (hK4.get (w.heap.size + 1) a.obj (by simp))
  replace hin4 := Lib.hid hin4; replace hG := Lib.hid hG; replace hB4 := Lib.hid hB4; replace hK4 := Lib.hid hK4
  go_wp2_with fail
  refine (early_any pb sb4 cap4 whole l4 a.fr a.tt a.v _ hp4.out hin4.out.loose hfr).mono ?_
  rintro e w5 ⟨u, also, rfl, hR5, hb5⟩
  have hB5 : Below w.heap.size w w5 := hB4.out.trans (hb5.mono s4)
  replace hB5 := Lib.hid hB5; replace hb5 := Lib.hid hb5
  cases is
  · replace hR5 := Lib.hid hR5
    go_wp2
    go_ret
    exact ⟨rfl, hB5.out⟩
  · obtain ⟨rfl, hle⟩ := early_later hin.out.loose hin4.out.loose (given_leq hG.out) hR.out hR5 rfl
    have d1 : decide (u ≤ t) = true := by simpa using hle
    replace hR5 := Lib.hid hR5
    go_wp2
    go_ret
    exact ⟨rfl, hB5.out⟩
end Go.Proofs.Ytpjajiambbobhaa
