/- corveelaw06.awake: the document's examples. -/
import Derived.Test.YtpjajiambbobhaaTaken
import Derived.Test.YtpjajiambbobhaaLaw
namespace Go.Proofs.Ytpjajiambbobhaa
open Go.RowKit

instance (u v : V4) : Decidable (u.leq v) := inferInstanceAs (Decidable (_ ∧ _))

def ex0 : V4 := ⟨4, 0, 0, 0⟩
def ex1 : List St := [⟨0, ⟨4, 0, 0, 0⟩⟩, ⟨2, ⟨1, 0, 0, 0⟩⟩, ⟨5, ⟨4, 0, 0, 0⟩⟩]
theorem ex1_loose : Loose ex1 := by
  refine ⟨by decide, rfl, rising_of _ ⟨?_, ?_, ?_, trivial⟩, ?_⟩
  · intro x hx; simp at hx; rcases hx with rfl | rfl <;> decide
  · intro x hx; simp at hx; subst hx; decide
  · intro x hx; simp at hx
  · intro i hi
    have : i = 0 ∨ i = 1 ∨ i = 2 := by have : i < 3 := hi; omega
    rcases this with rfl | rfl | rfl <;> decide
theorem ex1_unlike : Unlike ex1 := by
  intro i hi
  have : i = 0 ∨ i = 1 := by have : i + 1 < 3 := hi; omega
  rcases this with rfl | rfl <;> decide
theorem ex1_val (u : Int) (h : 0 ≤ u) : val ex1 u = if 2 ≤ u ∧ u < 5 then ⟨1, 0, 0, 0⟩ else ⟨4, 0, 0, 0⟩ := by
  simp only [val, ex1, valR]
  rw [if_pos h]
  by_cases h2 : 2 ≤ u
  · rw [if_pos h2]
    by_cases h5 : 5 ≤ u
    · rw [if_pos h5, if_neg (by omega)]
    · rw [if_neg h5, if_pos (by omega)]
  · rw [if_neg h2, if_neg (by omega)]
theorem inv0 : Inv ex0 [⟨0, ex0⟩] := inv_new (by decide)
theorem val0 (u : Int) (h : 0 ≤ u) : val [⟨0, ex0⟩] u = ex0 := by simp [val, valR, h]

theorem ex_take {r : Int} {l' : List St} (h : TakeRel ex0 [⟨0, ex0⟩] 2 5 ⟨3, 0, 0, 0⟩ r l') : r = 0 ∧ l' = ex1 ∧ Inv ex0 ex1 := by
  obtain ⟨hi, ht⟩ := take_facts inv0 h
  have hall : ∀ u : Int, 2 ≤ u → u < 5 → (⟨3, 0, 0, 0⟩ : V4).leq (val [⟨0, ex0⟩] u) := fun u h1 _ => by rw [val0 u (by omega)]; decide
  rcases ht with ⟨h1, _⟩ | ⟨_, h1, _⟩ | ⟨_, _, h2, h3⟩
  · exact absurd h1 (by decide)
  · exact absurd hall h1
  · have e : l' = ex1 := canon hi.loose ex1_loose hi.unlike ex1_unlike fun u u0 u1 => by
      rw [h3 u u0 u1, ex1_val u u0, val0 u u0]; rfl
    rw [e] at hi
    exact ⟨h2, e, hi⟩

theorem ex_early1 {t : Int} {is : Bool} (h : EarlyRel ex1 0 3 ⟨2, 0, 0, 0⟩ t is) : t = 5 ∧ is = true := by
  unfold EarlyRel at h
  rw [if_pos ⟨by decide, by decide, by decide⟩] at h
  have ok5 : OkAt ex1 3 ⟨2, 0, 0, 0⟩ 5 := by
    intro k hk h1 h2
    have : k = 0 ∨ k = 1 ∨ k = 2 := by have : k < 3 := hk; omega
    rcases this with rfl | rfl | rfl
    · have := h2 (by decide); exact absurd this (by decide)
    · have := h2 (by decide); exact absurd this (by decide)
    · decide
  have no : ∀ u : Int, 0 ≤ u → u < 5 → ¬ OkAt ex1 3 ⟨2, 0, 0, 0⟩ u := by
    intro u h1 h2 hk
    have := hk 1 (by decide) (by show (2 : Int) < u + 3; omega) (fun _ => by show u < 5; exact h2)
    exact absurd this (by decide)
  rcases h with ⟨h1, h2, h3, h4, h5⟩ | ⟨h1, h2, h3⟩
  · refine ⟨?_, h1⟩
    apply Classical.byContradiction
    intro hc
    by_cases hlt : t < 5
    · exact no t (by omega) hlt h4
    · exact h5 5 (by omega) (by omega) ok5
  · exact absurd ok5 (h3 5 (by omega) (by omega))
theorem ex_early2 {t : Int} {is : Bool} (h : EarlyRel ex1 0 2 ⟨2, 0, 0, 0⟩ t is) : t = 0 ∧ is = true := by
  unfold EarlyRel at h
  rw [if_pos ⟨by decide, by decide, by decide⟩] at h
  have ok0 : OkAt ex1 2 ⟨2, 0, 0, 0⟩ 0 := by
    intro k hk h1 h2
    have : k = 0 ∨ k = 1 ∨ k = 2 := by have : k < 3 := hk; omega
    rcases this with rfl | rfl | rfl
    · decide
    · exact absurd h1 (by decide)
    · exact absurd h1 (by decide)
  rcases h with ⟨h1, h2, h3, h4, h5⟩ | ⟨h1, h2, h3⟩
  · refine ⟨?_, h1⟩
    apply Classical.byContradiction
    intro hc
    exact h5 0 (by omega) (by omega) ok0
  · exact absurd ok0 (h3 0 (by omega) (by omega))
theorem ex_take2 {r : Int} {l' : List St} (hi : Inv ex0 ex1) (h : TakeRel ex0 ex1 4 6 ⟨2, 0, 0, 0⟩ r l') : r = 60 ∧ l' = ex1 := by
  obtain ⟨_, ht⟩ := take_facts hi h
  rcases ht with ⟨h1, _⟩ | ⟨_, _, h1, h2⟩ | ⟨_, h1, _⟩
  · exact absurd h1 (by decide)
  · exact ⟨h1, h2⟩
  · have := h1 4 (by decide) (by decide); exact absurd this (by decide)
theorem ex_give {r : Int} {l' : List St} (hi : Inv ex0 ex1) (h : GiveRel ex0 ex1 5 6 ⟨1, 0, 0, 0⟩ r l') : r = 61 := by
  obtain ⟨_, ht⟩ := give_facts hi h
  rcases ht with ⟨h1, _⟩ | ⟨_, _, h1, h2⟩ | ⟨_, h1, _⟩
  · exact absurd h1 (by decide)
  · exact h1
  · have := h1 5 (by decide) (by decide); exact absurd this (by decide)

set_option maxRecDepth 100000 in
set_option maxHeartbeats 1600000 in
theorem awake_any (w : World) : Calls Try.prog 19 #[] w fun e w' => e = .returned (.bool true) ∧ Below w.heap.size w w' := by
  go_enter Try.func19, Try.ntmps19
  go_wp2_with fail
  refine (new_any ex0 _).mono ?_
  rintro e w2 (⟨hw, _⟩ | ⟨hw, pb, sb, rfl, hp, hpb, hsb, hb2⟩)
  · exact absurd hw (by decide)
  clear hw
  have s2 := hb2.size
  replace hp := Lib.hid hp; replace hb2 := Lib.hid hb2
  go_wp2_with fail
  refine (take_any pb sb 1 ex0 _ 2 5 ⟨3, 0, 0, 0⟩ _ hp.out inv0.loose).mono ?_
  rintro e w3 ⟨r, sb3, cap3, l3, rfl, hR, hp3, hs3, hm3⟩
  obtain ⟨rfl, rfl, hin⟩ := ex_take hR
  clear hR
  have hB3 : Below w.heap.size w w3 := below_mod hb2.out hm3 (fun k h => by rcases h with h | h <;> omega) s2
  have hsb3 : w.heap.size ≤ sb3 := by rcases hs3 with h | h <;> omega
  have s3 := hB3.size
  replace hp3 := Lib.hid hp3; replace hm3 := Lib.hid hm3; replace hB3 := Lib.hid hB3; replace hin := Lib.hid hin; replace hs3 := Lib.hid hs3
  go_wp2_with fail
  refine (steps_any pb sb3 cap3 ex0 ex1 _ hp3.out hin.out.loose).mono ?_
  rintro e w4 ⟨sx, cx, rfl, hrx, hsx, hb4⟩
  have hB4 : Below w.heap.size w w4 := hB3.out.trans (hb4.mono s3)
  have hp4 := hp3.out.below hb4 hp3.out.lt.1 hp3.out.lt.2
  have s4 := hB4.size
  replace hp4 := Lib.hid hp4; replace hB4 := Lib.hid hB4; replace hrx := Lib.hid hrx; replace hb4 := Lib.hid hb4
  go_wp2_with fail
  refine (early_any pb sb3 cap3 ex0 ex1 0 3 ⟨2, 0, 0, 0⟩ _ hp4.out hin.out.loose (by decide)).mono ?_
  rintro e w5 ⟨t, is, rfl, hE, hb5⟩
  obtain ⟨rfl, rfl⟩ := ex_early1 hE
  clear hE
  have hB5 : Below w.heap.size w w5 := hB4.out.trans (hb5.mono s4)
  have hp5 := hp4.out.below hb5 hp4.out.lt.1 hp4.out.lt.2
  have hrx5 := hrx.out.below hb5 hrx.out.lt
  have s5 := hB5.size
  replace hp5 := Lib.hid hp5; replace hB5 := Lib.hid hB5; replace hrx5 := Lib.hid hrx5; replace hb5 := Lib.hid hb5
  go_wp2_with fail
  refine (early_any pb sb3 cap3 ex0 ex1 0 2 ⟨2, 0, 0, 0⟩ _ hp5.out hin.out.loose (by decide)).mono ?_
  rintro e w6 ⟨t, is, rfl, hE, hb6⟩
  obtain ⟨rfl, rfl⟩ := ex_early2 hE
  clear hE
  have hB6 : Below w.heap.size w w6 := hB5.out.trans (hb6.mono s5)
  have hp6 := hp5.out.below hb6 hp5.out.lt.1 hp5.out.lt.2
  have hrx6 := hrx5.out.below hb6 hrx5.out.lt
  have s6 := hB6.size
  obtain ⟨c0, c1, c2, c3, c4⟩ := hrx6.cells (i := 1) (by decide)
  have hx1 : nth ex1 1 = ⟨2, ⟨1, 0, 0, 0⟩⟩ := rfl
  rw [hx1] at c0 c1 c2 c3 c4
  simp at c0 c1 c2 c3 c4
  have hl3 : ex1.length = 3 := rfl
  have he := eq43 ⟨2, ⟨1, 0, 0, 0⟩⟩ ⟨2, ⟨1, 0, 0, 0⟩⟩
  simp at he
  clear hx1
  replace hp6 := Lib.hid hp6; replace hB6 := Lib.hid hB6; replace hrx6 := Lib.hid hrx6; replace hb6 := Lib.hid hb6
  go_wp2_with fail
  refine (take_any pb sb3 cap3 ex0 ex1 4 6 ⟨2, 0, 0, 0⟩ _ hp6.out hin.out.loose).mono ?_
  rintro e w7 ⟨r, sb7, cap7, l7, rfl, hR, hp7, hs7, hm7⟩
  obtain ⟨rfl, rfl⟩ := ex_take2 hin.out hR
  clear hR
  have hB7 : Below w.heap.size w w7 := below_mod hB6.out hm7 (fun k h => by rcases h with h | h <;> omega) s6
  have hsb7 : w.heap.size ≤ sb7 := by rcases hs7 with h | h <;> omega
  have s7 := hB7.size
  replace hp7 := Lib.hid hp7; replace hB7 := Lib.hid hB7; replace hm7 := Lib.hid hm7; replace hs7 := Lib.hid hs7
  clear c0 c1 c2 c3 c4 he
  go_wp2_with fail
  refine (give_any pb sb7 cap7 ex0 ex1 5 6 ⟨1, 0, 0, 0⟩ _ hp7.out hin.out.loose).mono ?_
  rintro e w8 ⟨r, sb8, cap8, l8, rfl, hR, hp8, hs8, hm8⟩
  obtain rfl := ex_give hin.out hR
  clear hR
  have hB8 : Below w.heap.size w w8 := below_mod hB7.out hm8 (fun k h => by rcases h with h | h <;> omega) s7
  replace hB8 := Lib.hid hB8; replace hm8 := Lib.hid hm8; replace hp8 := Lib.hid hp8; replace hs8 := Lib.hid hs8
  go_wp2
  go_ret
  exact ⟨rfl, hB8.out⟩
end Go.Proofs.Ytpjajiambbobhaa
