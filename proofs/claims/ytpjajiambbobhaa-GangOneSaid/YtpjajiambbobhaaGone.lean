/- Three nodes that are alike are one: the plain law. Plain theorems: no condition. -/
import Derived.Test.YtpjajiambbobhaaGpl
namespace Go.Proofs.Ytpjajiambbobhaa

theorem three {i : Nat} (h : i < 3) : i = 0 ∨ i = 1 ∨ i = 2 := by omega
theorem gang_three : Gang 3 [0, 1, 2] := by
  refine ⟨by decide, fun i hi => ?_, fun i hi => ?_, fun i hi => ?_⟩
  · rcases three hi with rfl | rfl | rfl <;> decide
  · rcases three hi with rfl | rfl | rfl <;> decide
  · have : i + 1 < 3 := hi
    have h2 : i = 0 ∨ i = 1 := by omega
    rcases h2 with rfl | rfl <;> decide
theorem among_three {i : Nat} (h : i < 3) : Among [0, 1, 2] 3 i := by
  rcases three h with rfl | rfl | rfl <;> decide

structure Alike (ps : List Nd) (whole : V4) (l : List St) : Prop where
  len : ps.length = 3
  whole : ∀ i, i < 3 → (nd ps i).whole = whole
  steps : ∀ i, i < 3 → (nd ps i).l = l

theorem Alike.step {ps ps' : List Nd} {whole v : V4} {l l' : List St} {fr tt r r' : Int} (h : Alike ps whole l) (hi : Inv whole l) (hi' : Inv whole l') (hlen : ps'.length = ps.length) (hw : ∀ i, i < ps.length → (nd ps' i).whole = (nd ps i).whole)
    (hp : ∀ i, i < ps'.length → Inv (nd ps' i).whole (nd ps' i).l) (ht : Taken l fr tt v r l') (hg : TookG ps [0, 1, 2] fr tt v r' ps') : r = r' ∧ Alike ps' whole l' := by
  have h3 := h.len
  have hlen' : ps'.length = 3 := hlen.trans h3
  have hw' : ∀ i, i < 3 → (nd ps' i).whole = whole := fun i hi => by rw [hw i (by omega), h.whole i hi]
  have hal : (∀ i, i < ps.length → Among [0, 1, 2] ([0, 1, 2] : List Int).length i → ∀ u, fr ≤ u → u < tt → v.leq (val (nd ps i).l u)) ↔ (∀ u, fr ≤ u → u < tt → v.leq (val l u)) := by
    constructor
    · intro h2 u u1 u2
      have := h2 0 (by omega) (among_three (by omega)) u u1 u2
      rw [h.steps 0 (by omega)] at this
      exact this
    · intro h2 i hi _ u u1 u2
      rw [h.steps i (by omega)]
      exact h2 u u1 u2
  unfold TookG at hg
  rw [hal] at hg
  have hgang : Gang ps.length [0, 1, 2] := by rw [h3]; exact gang_three
  rcases hg with ⟨a, rfl, c⟩ | ⟨_, a, b, rfl, c⟩ | ⟨_, a, b, rfl, c⟩
  · have hs : ¬ spanL fr tt v = true := fun hc => a ⟨hgang, hc⟩
    rcases ht with ⟨_, rfl, rfl⟩ | ⟨x, _⟩ | ⟨x, _⟩
    · exact ⟨rfl, hlen', hw', fun i hi => by rw [c i (by omega), h.steps i hi]⟩
    · exact absurd x hs
    · exact absurd x hs
  · rcases ht with ⟨x, _⟩ | ⟨_, _, rfl, rfl⟩ | ⟨_, x, _⟩
    · rw [a] at x; cases x
    · exact ⟨rfl, hlen', hw', fun i hi => by rw [c i (by omega), h.steps i hi]⟩
    · exact absurd x b
  · rcases ht with ⟨x, _⟩ | ⟨_, x, _⟩ | ⟨_, _, rfl, hv⟩
    · rw [a] at x; cases x
    · exact absurd b x
    · refine ⟨rfl, hlen', hw', fun i hi3 => ?_⟩
      have hpi := hp i (by omega)
      rw [hw' i hi3] at hpi
      refine canon hpi.loose hi'.loose hpi.unlike hi'.unlike fun u u0 u1 => ?_
      rw [(c i (by omega)).1 (among_three hi3) u u0 u1, h.steps i hi3, hv u u0 u1]

/-- a search among nodes that are alike is a search at one -/
theorem one_find {ps : List Nd} {zs : List Int} {l : List St} {many : Int} {v : V4} {ticks after t u : Int} {xs : List Nat} {is b : Bool} (hm : 1 ≤ many)
    (hs : ∀ u, (((sel ps zs ticks v u).length : Int) < many ↔ ¬ OkT l ticks v u)) (he : EarlyRel l after ticks v t is) (hf : FindRel ps zs many v ticks after u xs b) : b = is ∧ u = t ∧ (is = true → (xs.length : Int) = many ∧ ∃ r, sel ps zs ticks v t = xs ++ r) := by
  unfold EarlyRel at he
  cases b with
  | true =>
    have f := hf.found
    have hok : OkT l ticks v u := by
      apply Classical.byContradiction
      intro hc
      have := (hs u).2 hc
      obtain ⟨r, hr⟩ := f.pre
      rw [hr, List.length_append] at this
      have := f.len
      omega
    have hge := f.ge
    have hlt := f.lt
    rw [if_pos ⟨f.ticks1, f.right, by omega⟩] at he
    rcases he with ⟨rfl, h1, h2, h3, h4⟩ | ⟨rfl, _, h4⟩
    · have e : u = t := by
        have a : ¬ u < t := fun hc => h4 u hge hc hok.1
        have b : ¬ t < u := fun hc => (hs t).1 (f.first t h1 hc) ⟨h3, h2⟩
        omega
      subst e
      exact ⟨rfl, rfl, fun _ => ⟨f.len, f.pre⟩⟩
    · exact absurd hok.1 (h4 u hge hok.2)
  | false =>
    obtain ⟨n1, n2, n3⟩ := hf.none
    by_cases c : 1 ≤ ticks ∧ v.right = true ∧ after < 1099511627776
    · rw [if_pos c] at he
      rcases he with ⟨rfl, h1, h2, h3, h4⟩ | ⟨rfl, rfl, h4⟩
      · exact absurd ⟨h3, h2⟩ ((hs t).1 (n3 hm c.1 c.2.1 t h1 (by omega)))
      · exact ⟨rfl, n1, fun h => by cases h⟩
    · rw [if_neg c] at he
      obtain ⟨rfl, rfl⟩ := he
      exact ⟨rfl, n1, fun h => by cases h⟩

theorem sel_three {ps : List Nd} (hlen : ps.length = 3) (zs : List Int) (ticks : Int) (v : V4) (u : Int) :
    sel ps zs ticks v u = (if pick ps zs ticks v u 0 = true then [0] else []) ++ ((if pick ps zs ticks v u 1 = true then [1] else []) ++ (if pick ps zs ticks v u 2 = true then [2] else [])) := by
  have hp : ∀ j, 3 ≤ j → pick ps zs ticks v u j = false := fun j hj => by
    unfold pick; rw [hlen]
    simp; omega
  unfold sel selk
  rw [show List.range 16 = [0, 1, 2, 3, 4, 5, 6, 7, 8, 9, 10, 11, 12, 13, 14, 15] from rfl]
  cases h0 : pick ps zs ticks v u 0 <;> cases h1 : pick ps zs ticks v u 1 <;> cases h2 : pick ps zs ticks v u 2 <;>
    simp [List.filter, h0, h1, h2, hp 3, hp 4, hp 5, hp 6, hp 7, hp 8, hp 9, hp 10, hp 11, hp 12, hp 13, hp 14, hp 15]
theorem Alike.pick {ps : List Nd} {whole : V4} {l : List St} (h : Alike ps whole l) (zs : List Int) (ticks : Int) (v : V4) (u : Int) {j : Nat} (hj : j < 3) : pick ps zs ticks v u j = (decide (Among zs zs.length j) && decide (OkT l ticks v u)) := by
  unfold Ytpjajiambbobhaa.pick
  rw [h.len, h.steps j hj]
  simp [hj]
theorem Alike.all {ps : List Nd} {whole : V4} {l : List St} (h : Alike ps whole l) (ticks : Int) (v : V4) (u : Int) : (((sel ps [2, 0, 1, 0, 7, -1] ticks v u).length : Int) < 3 ↔ ¬ OkT l ticks v u) := by
  rw [sel_three h.len, h.pick _ _ _ _ (by omega), h.pick _ _ _ _ (by omega), h.pick _ _ _ _ (by omega)]
  rw [show decide (Among [2, 0, 1, 0, 7, -1] ([2, 0, 1, 0, 7, -1] : List Int).length 0) = true by decide, show decide (Among [2, 0, 1, 0, 7, -1] ([2, 0, 1, 0, 7, -1] : List Int).length 1) = true by decide, show decide (Among [2, 0, 1, 0, 7, -1] ([2, 0, 1, 0, 7, -1] : List Int).length 2) = true by decide]
  by_cases c : OkT l ticks v u <;> simp [c]
theorem Alike.two {ps : List Nd} {whole : V4} {l : List St} (h : Alike ps whole l) (ticks : Int) (v : V4) (u : Int) : sel ps [2] ticks v u = if OkT l ticks v u then [2] else [] := by
  rw [sel_three h.len, h.pick _ _ _ _ (by omega), h.pick _ _ _ _ (by omega), h.pick _ _ _ _ (by omega)]
  rw [show decide (Among [2] ([2] : List Int).length 0) = false by decide, show decide (Among [2] ([2] : List Int).length 1) = false by decide, show decide (Among [2] ([2] : List Int).length 2) = true by decide]
  by_cases c : OkT l ticks v u <;> simp [c]
theorem Alike.last {ps : List Nd} {whole : V4} {l : List St} (h : Alike ps whole l) (ticks : Int) (v : V4) (u : Int) : (((sel ps [2] ticks v u).length : Int) < 1 ↔ ¬ OkT l ticks v u) := by
  rw [h.two]
  by_cases c : OkT l ticks v u <;> simp [c]

theorem one_law {ps : List Nd} {whole v : V4} {l : List St} {ticks after t u x : Int} {xs ys : List Nat} {is b c : Bool} (h : Alike ps whole l) (he : EarlyRel l after ticks v t is)
    (hf : FindRel ps [2, 0, 1, 0, 7, -1] 3 v ticks after u xs b) (hg : FindRel ps [2] 1 v ticks after x ys c) : b = is ∧ c = is ∧ u = t ∧ x = t ∧ (is = true → xs.length = 3 ∧ ys = [2]) := by
  obtain ⟨h1, h2, h3⟩ := one_find (by omega) (h.all ticks v) he hf
  obtain ⟨h4, h5, h6⟩ := one_find (by omega) (h.last ticks v) he hg
  refine ⟨h1, h4, h2, h5, fun hi => ?_⟩
  obtain ⟨a, _⟩ := h3 hi
  obtain ⟨b1, r, hr⟩ := h6 hi
  refine ⟨by omega, ?_⟩
  rw [h.two] at hr
  match ys, b1 with
  | [y], _ =>
    split at hr
    · simp at hr; rw [hr.1]
    · simp at hr
end Go.Proofs.Ytpjajiambbobhaa
