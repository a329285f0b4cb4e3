/- The earliest tick and the free amounts, plainly: what is told as the earliest is where the amount fits all along, and no tick ahead of it is. No program in sight; conditions: the steps of a profile as they are kept. -/
import Derived.Test.YtpjajiambbobhaaTaken
import Derived.Test.YtpjajiambbobhaaEarly
import Derived.Test.YtpjajiambbobhaaBackp
namespace Go.Proofs.Ytpjajiambbobhaa

theorem rise_le {l : List St} (hl : Loose l) {i j : Nat} (h : i ≤ j) (hj : j < l.length) : (nth l i).t ≤ (nth l j).t := by
  by_cases e : i = j
  · subst e; exact Int.le_refl _
  · exact Int.le_of_lt (hl.rise i j (by omega) hj)

theorem okAt_iff {l : List St} (hl : Loose l) {v : V4} {u ticks : Int} (h0 : 0 ≤ u) (h1 : 1 ≤ ticks) : OkAt l ticks v u ↔ ∀ x, u ≤ x → x < u + ticks → v.leq (val l x) := by
  constructor
  · intro h x hx hx2
    obtain ⟨k, hk⟩ := place_ex hl (u := x) (by omega)
    rw [val_place hl.rise hk]
    exact fits_iff.1 (h k hk.1 (by have := hk.2.1; omega) (fun hk1 => by have := hk.2.2 (k + 1) (by omega) hk1; omega))
  · intro h k hk h2 h3
    have hpl : IsPlace l (max u (nth l k).t) k := ⟨hk, by omega, fun j hj hj2 => by
      have e1 := hl.rise k j hj hj2
      have e2 := rise_le hl (i := k + 1) (j := j) (by omega) hj2
      have e3 := h3 (by omega)
      omega⟩
    have := h (max u (nth l k).t) (by omega) (by omega)
    rw [val_place hl.rise hpl] at this
    exact fits_iff.2 this

theorem okAt_free {whole : V4} {l : List St} (hi : Inv whole l) {v : V4} {u ticks : Int} (h0 : 0 ≤ u) (h1 : 1 ≤ ticks) (h2 : u + ticks ≤ 1099511627776) : v.fits (freeL whole l u (u + ticks)) = true ↔ OkAt l ticks v u := by
  rw [fits_iff, leq_free hi h0 (by omega) h2, okAt_iff hi.loose h0 h1]

theorem early_yes {whole : V4} {l : List St} {after ticks t : Int} {v : V4} (hi : Inv whole l) (h : EarlyRel l after ticks v t true) :
    1 ≤ ticks ∧ 0 ≤ t ∧ after ≤ t ∧ t + ticks ≤ 1099511627776 ∧ v.fits (freeL whole l t (t + ticks)) = true ∧ ∀ u, 0 ≤ u → after ≤ u → u < t → v.fits (freeL whole l u (u + ticks)) = false := by
  unfold EarlyRel at h
  by_cases c : 1 ≤ ticks ∧ v.right = true ∧ after < 1099511627776
  · rw [if_pos c] at h
    rcases h with ⟨_, h1, h2, h3, h4⟩ | ⟨h, _⟩
    · refine ⟨c.1, by omega, by omega, h2, (okAt_free hi (by omega) c.1 h2).2 h3, fun u u0 u1 u2 => ?_⟩
      rw [Bool.eq_false_iff]
      exact fun hc => h4 u (by omega) u2 ((okAt_free hi u0 c.1 (by omega)).1 hc)
    · cases h
  · rw [if_neg c] at h
    exact absurd h.2 (by simp)

theorem early_no {whole : V4} {l : List St} {acts : List Act6} {k : Nat} {after ticks t : Int} {v : V4} (hi : Inv whole l) (hla : LateP whole acts k l) (h : EarlyRel l after ticks v t false) :
    t = 0 ∧ (1 ≤ ticks → v.right = true → after ≤ 1099511627776 - ticks → v.fits whole = true → ticks ≤ 1099511625776 → ∃ i, i < acts.length ∧ 2000 < (act acts i).tt) := by
  unfold EarlyRel at h
  by_cases c : 1 ≤ ticks ∧ v.right = true ∧ after < 1099511627776
  · rw [if_pos c] at h
    rcases h with ⟨h, _⟩ | ⟨_, rfl, h2⟩
    · cases h
    · refine ⟨rfl, fun e1 e2 e3 e4 e5 => ?_⟩
      apply Classical.byContradiction
      intro hc
      have hM : ∀ i, i < k → i < acts.length → (act acts i).tt ≤ 2000 := fun i _ hi2 => by
        apply Classical.byContradiction
        intro h; exact hc ⟨i, hi2, by omega⟩
      refine h2 (max after 2000) (by omega) (by omega) ((okAt_iff hi.loose (by omega) e1).2 fun x x1 x2 => ?_)
      rw [hla 2000 hM x (by omega) (by omega) (by omega)]
      exact fits_iff.1 e4
  · rw [if_neg c] at h
    exact ⟨h.1, fun e1 e2 e3 _ _ => absurd ⟨e1, e2, by omega⟩ c⟩

/-- giving back makes nothing later -/
theorem early_later {l l' : List St} {after ticks t u : Int} {v : V4} {is also : Bool} (hl : Loose l) (hl' : Loose l') (hv : ∀ x, 0 ≤ x → x < 1099511627776 → (val l x).leq (val l' x))
    (h : EarlyRel l after ticks v t is) (h' : EarlyRel l' after ticks v u also) (his : is = true) : also = true ∧ u ≤ t := by
  unfold EarlyRel at h h'
  by_cases c : 1 ≤ ticks ∧ v.right = true ∧ after < 1099511627776
  · rw [if_pos c] at h h'
    rcases h with ⟨_, h1, h2, h3, _⟩ | ⟨h, _⟩
    · have hok : OkAt l' ticks v t := (okAt_iff hl' (by omega) c.1).2 fun x x1 x2 => ((okAt_iff hl (by omega) c.1).1 h3 x x1 x2).trans (hv x (by omega) (by omega))
      rcases h' with ⟨h4, h5, h6, h7, h8⟩ | ⟨h4, h5, h6⟩
      · refine ⟨h4, Int.not_lt.1 fun hc => h8 t (by omega) hc hok⟩
      · exact absurd hok (h6 t (by omega) h2)
    · rw [his] at h; cases h
  · rw [if_neg c] at h
    rw [his] at h; exact absurd h.2 (by simp)

theorem leq_add4 {u v : V4} (h : v.right = true) : u.leq (add4 u v) := by
  have := right_iff.1 h
  refine ⟨?_, ?_, ?_, ?_⟩ <;> simp only [add4] <;> omega
theorem given_leq {whole : V4} {l l' : List St} {fr tt : Int} {v : V4} {r : Int} (h : Given whole l fr tt v r l') : ∀ x, 0 ≤ x → x < 1099511627776 → (val l x).leq (val l' x) := by
  intro x x0 x1
  rcases h with ⟨_, _, rfl⟩ | ⟨_, _, _, rfl⟩ | ⟨hs, _, _, hv⟩
  · exact V4.leq.refl _
  · exact V4.leq.refl _
  · rw [hv x x0 x1]
    obtain ⟨_, _, _, b4⟩ := spanL_true hs
    split
    · exact leq_add4 b4
    · exact V4.leq.refl _
end Go.Proofs.Ytpjajiambbobhaa
