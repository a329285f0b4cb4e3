/- Plain laws of what a search in a pool tells. Plain theorems: no condition. -/
import Derived.Test.YtpjajiambbobhaaOpeng
import Derived.Test.YtpjajiambbobhaaGtake
namespace Go.Proofs.Ytpjajiambbobhaa
open Go.RowKit

theorem sel_mem {ps : List Nd} {zs : List Int} {ticks u : Int} {v : V4} {j : Nat} (h : j ∈ sel ps zs ticks v u) : j < ps.length ∧ Among zs zs.length j ∧ OkT (nd ps j).l ticks v u := by
  unfold sel selk at h
  obtain ⟨_, h2⟩ := List.mem_filter.1 h
  simp only [pick, Bool.and_eq_true, decide_eq_true_eq] at h2
  exact ⟨h2.1.1, h2.1.2, h2.2⟩
theorem sel_rise (ps : List Nd) (zs : List Int) (ticks u : Int) (v : V4) : (sel ps zs ticks v u).Pairwise (· < ·) := by
  unfold sel selk
  exact List.Pairwise.filter _ List.pairwise_lt_range

structure Found (ps : List Nd) (zs : List Int) (many : Int) (v : V4) (ticks after t : Int) (xs : List Nat) : Prop where
  many1 : 1 ≤ many
  ticks1 : 1 ≤ ticks
  right : v.right = true
  ge : max after 0 ≤ t
  lt : t < 1099511627776
  fin : t + ticks ≤ 1099511627776
  len : (xs.length : Int) = many
  pre : ∃ r, sel ps zs ticks v t = xs ++ r
  first : ∀ u, max after 0 ≤ u → u < t → ((sel ps zs ticks v u).length : Int) < many
theorem FindRel.found {ps : List Nd} {zs : List Int} {many : Int} {v : V4} {ticks after t : Int} {xs : List Nat} (h : FindRel ps zs many v ticks after t xs true) : Found ps zs many v ticks after t xs := by
  unfold FindRel at h
  by_cases c : 1 ≤ many ∧ 1 ≤ ticks ∧ v.right = true
  · rw [if_pos c] at h
    rcases h with ⟨_, h1, h2, h3, ⟨r, hr⟩, h5⟩ | ⟨h, _⟩
    · refine ⟨c.1, c.2.1, c.2.2, h1, h2, ?_, h3, ⟨r, hr⟩, h5⟩
      cases xs with
      | nil => simp at h3; omega
      | cons x xs => exact (sel_mem (j := x) (by rw [hr]; simp)).2.2.2
    · cases h
  · rw [if_neg c] at h
    cases h.2.2
theorem FindRel.none {ps : List Nd} {zs : List Int} {many : Int} {v : V4} {ticks after t : Int} {xs : List Nat} (h : FindRel ps zs many v ticks after t xs false) : t = 0 ∧ xs = [] ∧
    (1 ≤ many → 1 ≤ ticks → v.right = true → ∀ u, max after 0 ≤ u → u < 1099511627776 → ((sel ps zs ticks v u).length : Int) < many) := by
  unfold FindRel at h
  by_cases c : 1 ≤ many ∧ 1 ≤ ticks ∧ v.right = true
  · rw [if_pos c] at h
    rcases h with ⟨h, _⟩ | ⟨_, h1, h2, h3⟩
    · cases h
    · exact ⟨h1, h2, fun _ _ _ => h3⟩
  · rw [if_neg c] at h
    exact ⟨h.1, h.2.1, fun a b d => absurd ⟨a, b, d⟩ c⟩

/-- where the same, or more, is free, no fewer are found, no later -/
theorem Found.sooner {ps : List Nd} {zs : List Int} {many many' : Int} {v v' : V4} {ticks ticks' after t u : Int} {xs ys : List Nat} {b : Bool} (h : Found ps zs many v ticks after t xs) (h' : FindRel ps zs many' v' ticks' after u ys b)
    (c1 : 1 ≤ many') (c2 : 1 ≤ ticks') (c3 : v'.right = true) (hm : many' ≤ many) (hp : ∀ j, pick ps zs ticks v t j = true → pick ps zs ticks' v' t j = true) : b = true ∧ u ≤ t ∧ (ys.length : Int) = many' := by
  obtain ⟨r, hr⟩ := h.pre
  have hle : (sel ps zs ticks v t).length ≤ (sel ps zs ticks' v' t).length := by
    unfold sel selk
    rw [← List.countP_eq_length_filter, ← List.countP_eq_length_filter]
    exact List.countP_mono_left fun j _ => hp j
  have hlen := congrArg List.length hr
  rw [List.length_append] at hlen
  have := h.len
  have hge := h.ge
  have hlt := h.lt
  cases b with
  | false =>
    have := h'.none.2.2 c1 c2 c3 t hge hlt
    omega
  | true =>
    have hf := h'.found
    refine ⟨rfl, ?_, hf.len⟩
    apply Classical.byContradiction
    intro hc
    have := hf.first t hge (by omega)
    omega
theorem pick_less {ps : List Nd} {zs : List Int} {ticks t : Int} {v : V4} (hl : ∀ i, i < ps.length → Loose (nd ps i).l) (h0 : 0 ≤ t) (h2 : 2 ≤ ticks) (j : Nat) (h : pick ps zs ticks v t j = true) : pick ps zs (ticks - 1) v t j = true := by
  simp only [pick, Bool.and_eq_true, decide_eq_true_eq] at h ⊢
  obtain ⟨⟨h3, h4⟩, h5, h6⟩ := h
  refine ⟨⟨h3, h4⟩, (okAt_iff (hl j h3) h0 (by omega)).2 fun x x1 x2 => (okAt_iff (hl j h3) h0 (by omega)).1 h5 x x1 (by omega), by omega⟩
theorem pick_zero {ps : List Nd} {zs : List Int} {ticks t : Int} {v : V4} (hi : ∀ i, i < ps.length → Inv (nd ps i).whole (nd ps i).l) (h0 : 0 ≤ t) (h2 : 1 ≤ ticks) (j : Nat) (h : pick ps zs ticks v t j = true) : pick ps zs ticks V4.zero t j = true := by
  simp only [pick, Bool.and_eq_true, decide_eq_true_eq] at h ⊢
  obtain ⟨⟨h3, h4⟩, h5, h6⟩ := h
  refine ⟨⟨h3, h4⟩, (okAt_iff (hi j h3).loose h0 h2).2 fun x x1 x2 => ?_, h6⟩
  have := right_iff.1 ((hi j h3).free x (by omega) (by omega)).1
  simp only [V4.leq, V4.zero]
  omega

/-- one answer -/
theorem FindRel.same {ps ps' : List Nd} {zs : List Int} {many : Int} {v : V4} {ticks after t t' : Int} {xs xs' : List Nat} {b b' : Bool} (h : FindRel ps zs many v ticks after t xs b) (h' : FindRel ps' zs many v ticks after t' xs' b')
    (hs : ∀ u, sel ps' zs ticks v u = sel ps zs ticks v u) : t' = t ∧ xs' = xs ∧ b' = b := by
  have key : ∀ {q : List Nd} {q' : List Nd} {s s' : Int} {ys ys' : List Nat}, Found q zs many v ticks after s ys → Found q' zs many v ticks after s' ys' → (∀ u, sel q' zs ticks v u = sel q zs ticks v u) → s ≤ s' := fun {q q' s s' ys ys'} f f' hs => by
    apply Classical.byContradiction
    intro hc
    have h1 := f.first s' f'.ge (by omega)
    obtain ⟨r, hr⟩ := f'.pre
    rw [hs] at hr
    rw [hr, List.length_append] at h1
    have := f'.len
    omega
  have clash : ∀ {q : List Nd} {q' : List Nd} {s s' : Int} {ys ys' : List Nat}, Found q zs many v ticks after s ys → FindRel q' zs many v ticks after s' ys' false → (∀ u, sel q' zs ticks v u = sel q zs ticks v u) → False := fun {q q' s s' ys ys'} f f' hs => by
    have h1 := f'.none.2.2 f.many1 f.ticks1 f.right s f.ge f.lt
    obtain ⟨r, hr⟩ := f.pre
    rw [hs, hr, List.length_append] at h1
    have := f.len
    omega
  cases b with
  | true =>
    cases b' with
    | true =>
      have f := h.found
      have f' := h'.found
      have e : t' = t := by
        have := key f f' hs
        have := key f' f (fun u => (hs u).symm)
        omega
      subst e
      refine ⟨rfl, ?_, rfl⟩
      obtain ⟨r, hr⟩ := f.pre
      obtain ⟨r', hr'⟩ := f'.pre
      rw [hs, hr] at hr'
      have l1 := f.len; have l2 := f'.len
      exact (List.append_inj hr' (by omega)).1.symm
    | false => exact (clash h.found h' hs).elim
  | false =>
    cases b' with
    | true => exact (clash h'.found h (fun u => (hs u).symm)).elim
    | false =>
      have n := h.none
      have n' := h'.none
      exact ⟨by rw [n.1, n'.1], by rw [n.2.1, n'.2.1], rfl⟩

theorem sel_same {ps ps' : List Nd} {zs : List Int} {ticks : Int} {v : V4} (hlen : ps'.length = ps.length) (h : SameL ps ps') (u : Int) : sel ps' zs ticks v u = sel ps zs ticks v u := by
  unfold sel selk
  congr 1
  funext j
  by_cases hj : j < ps.length
  · simp only [pick, hlen, h j hj]
  · simp only [pick, hlen, hj, decide_false, Bool.false_and]

/-- what was found is a gang -/
theorem Found.gang {ps : List Nd} {zs : List Int} {many : Int} {v : V4} {ticks after t : Int} {xs : List Nat} (h : Found ps zs many v ticks after t xs) : Gang ps.length (ints xs) ∧ (∀ j, j ∈ xs → j < ps.length ∧ Among zs zs.length j ∧ OkT (nd ps j).l ticks v t) ∧ xs.Pairwise (· < ·) := by
  obtain ⟨r, hr⟩ := h.pre
  have hm : ∀ j, j ∈ xs → j < ps.length ∧ Among zs zs.length j ∧ OkT (nd ps j).l ticks v t := fun j hj => sel_mem (by rw [hr]; exact List.mem_append_left _ hj)
  have hp : xs.Pairwise (· < ·) := by
    have := sel_rise ps zs ticks t v
    rw [hr] at this
    exact (List.pairwise_append.1 this).1
  have h1 := h.many1
  have hl := h.len
  have hz : ∀ i (hi : i < xs.length), zi (ints xs) i = ((xs[i] : Nat) : Int) := fun i hi => by simp [zi, ints, List.getD, hi]
  have hle : (ints xs).length = xs.length := by simp [ints]
  refine ⟨⟨by rw [hle]; omega, fun i hi => ?_, fun i hi => ?_, fun i hi => ?_⟩, hm, hp⟩
  · rw [hle] at hi; rw [hz i hi]; omega
  · rw [hle] at hi; rw [hz i hi]; have := (hm _ (List.getElem_mem hi)).1; omega
  · rw [hle] at hi
    rw [hz i (by omega), hz (i + 1) hi]
    have := List.pairwise_iff_getElem.1 hp i (i + 1) (by omega) hi (by omega)
    omega
theorem among_ints {xs : List Nat} {j : Nat} : Among (ints xs) (ints xs).length j ↔ j ∈ xs := by
  unfold Among
  have hle : (ints xs).length = xs.length := by simp [ints]
  have hz : ∀ i (hi : i < xs.length), zi (ints xs) i = ((xs[i] : Nat) : Int) := fun i hi => by simp [zi, ints, List.getD, hi]
  constructor
  · rintro ⟨c, hc, e⟩
    rw [hle] at hc
    rw [hz c hc] at e
    have : xs[c] = j := by omega
    rw [← this]; exact List.getElem_mem hc
  · intro h
    obtain ⟨i, hi, e⟩ := List.mem_iff_getElem.1 h
    exact ⟨i, by rw [hle]; exact hi, by rw [hz i hi, e]⟩
end Go.Proofs.Ytpjajiambbobhaa
