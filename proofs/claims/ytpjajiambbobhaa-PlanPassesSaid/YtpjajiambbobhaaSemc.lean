/- What Take and Give do, told by what is free at each tick. -/
import Derived.Test.YtpjajiambbobhaaSemb
namespace Go.Proofs.Ytpjajiambbobhaa
open Go.RowKit

def sub4 (u v : V4) : V4 := ⟨u.a - v.a, u.b - v.b, u.c - v.c, u.d - v.d⟩
def add4 (u v : V4) : V4 := ⟨u.a + v.a, u.b + v.b, u.c + v.c, u.d + v.d⟩

theorem leq_free {whole : V4} {l : List St} (hi : Inv whole l) {fr tt : Int} (h0 : 0 ≤ fr) (h1 : fr < tt) (h2 : tt ≤ 1099511627776) (v : V4) :
    v.leq (freeL whole l fr tt) ↔ ∀ u, fr ≤ u → u < tt → v.leq (val l u) := by
  have hm := free_min (whole := whole) hi.loose fr tt
  constructor
  · intro h u a b
    exact h.trans (hm.low u ⟨by omega, by omega⟩)
  · intro h
    have hw : ∀ u, fr ≤ u → u < tt → (val l u).leq whole := fun u a b => fits_iff.1 (hi.free u (by omega) (by omega)).2
    have h0' := (h fr (Int.le_refl _) h1).trans (hw fr (Int.le_refl _) h1)
    refine ⟨?_, ?_, ?_, ?_⟩
    · rcases hm.a with e | ⟨u, hu, e⟩
      · rw [e]; exact h0'.1
      · rw [e]; exact (h u (by omega) (by omega)).1
    · rcases hm.b with e | ⟨u, hu, e⟩
      · rw [e]; exact h0'.2.1
      · rw [e]; exact (h u (by omega) (by omega)).2.1
    · rcases hm.c with e | ⟨u, hu, e⟩
      · rw [e]; exact h0'.2.2.1
      · rw [e]; exact (h u (by omega) (by omega)).2.2.1
    · rcases hm.d with e | ⟨u, hu, e⟩
      · rw [e]; exact h0'.2.2.2
      · rw [e]; exact (h u (by omega) (by omega)).2.2.2

theorem most_leq_iff {whole : V4} {l : List St} (hi : Inv whole l) {fr tt : Int} (h0 : 0 ≤ fr) (h1 : fr < tt) (h2 : tt ≤ 1099511627776) (v : V4) :
    (add4 (mostL l fr tt) v).leq whole ↔ ∀ u, fr ≤ u → u < tt → (add4 (val l u) v).leq whole := by
  have hm := most_max hi.loose h0 h1
  have hr := fun u (a : fr ≤ u) (b : u < tt) => right_iff.1 (hi.free u (by omega) (by omega)).1
  constructor
  · intro h u a b
    have := hm.high u ⟨a, b⟩
    obtain ⟨a1, a2, a3, a4⟩ := this
    obtain ⟨b1, b2, b3, b4⟩ := h
    simp only [add4] at b1 b2 b3 b4
    refine ⟨?_, ?_, ?_, ?_⟩ <;> simp only [add4] <;> omega
  · intro h
    have hf := h fr (Int.le_refl _) h1
    have hrf := hr fr (Int.le_refl _) h1
    obtain ⟨c1, c2, c3, c4⟩ := hf
    simp only [add4] at c1 c2 c3 c4
    refine ⟨?_, ?_, ?_, ?_⟩
    · rcases hm.a with e | ⟨u, hu, e⟩
      · simp only [add4]; omega
      · have := (h u hu.1 hu.2).1; simp only [add4] at this ⊢; omega
    · rcases hm.b with e | ⟨u, hu, e⟩
      · simp only [add4]; omega
      · have := (h u hu.1 hu.2).2.1; simp only [add4] at this ⊢; omega
    · rcases hm.c with e | ⟨u, hu, e⟩
      · simp only [add4]; omega
      · have := (h u hu.1 hu.2).2.2.1; simp only [add4] at this ⊢; omega
    · rcases hm.d with e | ⟨u, hu, e⟩
      · simp only [add4]; omega
      · have := (h u hu.1 hu.2).2.2.2; simp only [add4] at this ⊢; omega

theorem most_right {whole : V4} {l : List St} (hi : Inv whole l) {fr tt : Int} (h0 : 0 ≤ fr) (h1 : fr < tt) (h2 : tt ≤ 1099511627776) : (mostL l fr tt).right = true := by
  have hm := most_max hi.loose h0 h1
  have hr := fun u (a : fr ≤ u) (b : u < tt) => right_iff.1 (hi.free u (by omega) (by omega)).1
  obtain ⟨z1, z2, z3, z4⟩ := hm.a0
  rw [right_iff]
  refine ⟨⟨z1, ?_⟩, ⟨z2, ?_⟩, ⟨z3, ?_⟩, ⟨z4, ?_⟩⟩
  · rcases hm.a with e | ⟨u, hu, e⟩
    · omega
    · have := hr u hu.1 hu.2; omega
  · rcases hm.b with e | ⟨u, hu, e⟩
    · omega
    · have := hr u hu.1 hu.2; omega
  · rcases hm.c with e | ⟨u, hu, e⟩
    · omega
    · have := hr u hu.1 hu.2; omega
  · rcases hm.d with e | ⟨u, hu, e⟩
    · omega
    · have := hr u hu.1 hu.2; omega

/-- what Take does -/
def Taken (l : List St) (fr tt : Int) (v : V4) (r : Int) (l' : List St) : Prop :=
  (spanL fr tt v = false ∧ r = 1 ∧ l' = l) ∨ (spanL fr tt v = true ∧ ¬ (∀ u, fr ≤ u → u < tt → v.leq (val l u)) ∧ r = 60 ∧ l' = l) ∨
    (spanL fr tt v = true ∧ (∀ u, fr ≤ u → u < tt → v.leq (val l u)) ∧ r = 0 ∧ ∀ u, 0 ≤ u → u < 1099511627776 → val l' u = if fr ≤ u ∧ u < tt then sub4 (val l u) v else val l u)
def Given (whole : V4) (l : List St) (fr tt : Int) (v : V4) (r : Int) (l' : List St) : Prop :=
  (spanL fr tt v = false ∧ r = 1 ∧ l' = l) ∨ (spanL fr tt v = true ∧ ¬ (∀ u, fr ≤ u → u < tt → (add4 (val l u) v).leq whole) ∧ r = 61 ∧ l' = l) ∨
    (spanL fr tt v = true ∧ (∀ u, fr ≤ u → u < tt → (add4 (val l u) v).leq whole) ∧ r = 0 ∧ ∀ u, 0 ≤ u → u < 1099511627776 → val l' u = if fr ≤ u ∧ u < tt then add4 (val l u) v else val l u)

theorem take_facts {whole : V4} {l l' : List St} {fr tt : Int} {v : V4} {r : Int} (hi : Inv whole l) (h : TakeRel whole l fr tt v r l') : Inv whole l' ∧ Taken l fr tt v r l' := by
  rcases h with ⟨h1, h2, h3⟩ | ⟨h1, h2, h3, h4⟩ | ⟨h1, h2, h3, h4⟩
  · rw [h3]; exact ⟨hi, .inl ⟨h1, h2, rfl⟩⟩
  · obtain ⟨b1, b2, b3, b4⟩ := spanL_true h1
    rw [h4]
    exact ⟨hi, .inr (.inl ⟨h1, fun hh => fits_false.1 h2 ((leq_free hi b1 b2 b3 v).2 hh), h3, rfl⟩)⟩
  · obtain ⟨b1, b2, b3, b4⟩ := spanL_true h1
    have hall := (leq_free hi b1 b2 b3 v).1 (fits_iff.1 h2)
    obtain ⟨c1, c2, c3⟩ := change_facts hi.loose h4 b1 b2 b3
    have hval : ∀ u, 0 ≤ u → u < 1099511627776 → val l' u = if fr ≤ u ∧ u < tt then sub4 (val l u) v else val l u := by
      intro u u0 u1
      rw [c3 u u0 u1]
      by_cases hu : fr ≤ u ∧ u < tt
      · rw [if_pos hu, if_pos hu, sub_eq (hi.free u u0 u1).1 b4 (hall u hu.1 hu.2)]; rfl
      · rw [if_neg hu, if_neg hu]
    refine ⟨⟨hi.right, c1, c2, fun u u0 u1 => ?_⟩, .inr (.inr ⟨h1, hall, h3, hval⟩)⟩
    rw [hval u u0 u1]
    by_cases hu : fr ≤ u ∧ u < tt
    · rw [if_pos hu]
      have q1 := right_iff.1 (hi.free u u0 u1).1
      have q2 := fits_iff.1 (hi.free u u0 u1).2
      have q3 := hall u hu.1 hu.2
      have q4 := right_iff.1 b4
      obtain ⟨a1, a2, a3, a4⟩ := q2
      obtain ⟨d1, d2, d3, d4⟩ := q3
      rw [right_iff, fits_iff]
      refine ⟨⟨⟨?_, ?_⟩, ⟨?_, ?_⟩, ⟨?_, ?_⟩, ⟨?_, ?_⟩⟩, ?_, ?_, ?_, ?_⟩ <;> simp only [sub4] <;> omega
    · rw [if_neg hu]; exact hi.free u u0 u1

theorem give_facts {whole : V4} {l l' : List St} {fr tt : Int} {v : V4} {r : Int} (hi : Inv whole l) (h : GiveRel whole l fr tt v r l') : Inv whole l' ∧ Given whole l fr tt v r l' := by
  rcases h with ⟨h1, h2, h3⟩ | ⟨h1, h2, h3, h4⟩ | ⟨h1, h2, h2', h3, h4⟩
  · rw [h3]; exact ⟨hi, .inl ⟨h1, h2, rfl⟩⟩
  · obtain ⟨b1, b2, b3, b4⟩ := spanL_true h1
    rw [h4]
    refine ⟨hi, .inr (.inl ⟨h1, fun hh => h2 ?_, h3, rfl⟩)⟩
    have hm := (most_leq_iff hi b1 b2 b3 v).2 hh
    have hmr := most_right hi b1 b2 b3
    have q1 := right_iff.1 hmr; have q2 := right_iff.1 b4; have q3 := right_iff.1 hi.right
    obtain ⟨e1, e2, e3, e4⟩ := hm
    simp only [add4] at e1 e2 e3 e4
    have hr : (⟨(mostL l fr tt).a + v.a, (mostL l fr tt).b + v.b, (mostL l fr tt).c + v.c, (mostL l fr tt).d + v.d⟩ : V4).right = true := by
      rw [right_iff]; refine ⟨⟨?_, ?_⟩, ⟨?_, ?_⟩, ⟨?_, ?_⟩, ⟨?_, ?_⟩⟩ <;> simp only <;> omega
    rw [add_eq hmr b4 hr]
    exact ⟨rfl, fits_iff.2 ⟨e1, e2, e3, e4⟩⟩
  · obtain ⟨b1, b2, b3, b4⟩ := spanL_true h1
    have hmr := most_right hi b1 b2 b3
    have hr : (⟨(mostL l fr tt).a + v.a, (mostL l fr tt).b + v.b, (mostL l fr tt).c + v.c, (mostL l fr tt).d + v.d⟩ : V4).right = true := by
      apply Classical.byContradiction
      intro hc
      have := add_ne hmr b4 hc
      omega
    rw [add_eq hmr b4 hr] at h2'
    have hall := (most_leq_iff hi b1 b2 b3 v).1 (fits_iff.1 h2')
    obtain ⟨c1, c2, c3⟩ := change_facts hi.loose h4 b1 b2 b3
    have hwr := right_iff.1 hi.right
    have q4 := right_iff.1 b4
    have hadd : ∀ u, 0 ≤ u → u < 1099511627776 → fr ≤ u → u < tt → (add4 (val l u) v).right = true := by
      intro u u0 u1 u2 u3
      have q1 := right_iff.1 (hi.free u u0 u1).1
      obtain ⟨d1, d2, d3, d4⟩ := hall u u2 u3
      simp only [add4] at d1 d2 d3 d4
      rw [right_iff]
      refine ⟨⟨?_, ?_⟩, ⟨?_, ?_⟩, ⟨?_, ?_⟩, ⟨?_, ?_⟩⟩ <;> simp only [add4] <;> omega
    have hval : ∀ u, 0 ≤ u → u < 1099511627776 → val l' u = if fr ≤ u ∧ u < tt then add4 (val l u) v else val l u := by
      intro u u0 u1
      rw [c3 u u0 u1]
      by_cases hu : fr ≤ u ∧ u < tt
      · rw [if_pos hu, if_pos hu, add_eq (hi.free u u0 u1).1 b4 (hadd u u0 u1 hu.1 hu.2)]; rfl
      · rw [if_neg hu, if_neg hu]
    refine ⟨⟨hi.right, c1, c2, fun u u0 u1 => ?_⟩, .inr (.inr ⟨h1, hall, h3, hval⟩)⟩
    rw [hval u u0 u1]
    by_cases hu : fr ≤ u ∧ u < tt
    · rw [if_pos hu]; exact ⟨hadd u u0 u1 hu.1 hu.2, fits_iff.2 (hall u hu.1 hu.2)⟩
    · rw [if_neg hu]; exact hi.free u u0 u1

theorem inv_new {whole : V4} (h : whole.right = true) : Inv whole [⟨0, whole⟩] := by
  refine ⟨h, ⟨by simp, rfl, fun i j hij hj => by simp at hj; omega, fun i hi => ?_⟩, fun i hi => by simp at hi, fun u u0 u1 => ?_⟩
  · have : i = 0 := by simpa using hi
    subst this; simp [nth]
  · have : val [⟨0, whole⟩] u = whole := by simp [val, valR, u0]
    rw [this]; exact ⟨h, fits_iff.2 (V4.leq.refl _)⟩
end Go.Proofs.Ytpjajiambbobhaa
