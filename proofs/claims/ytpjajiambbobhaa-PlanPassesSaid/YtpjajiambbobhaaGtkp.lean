/- What is found can be taken, is less then, and is there again when it is given back: the plain law. Plain theorems: no condition. -/
import Derived.Test.YtpjajiambbobhaaGpl
import Derived.Test.YtpjajiambbobhaaBackp
import Derived.Test.YtpjajiambbobhaaGnil
import Derived.Tactics
namespace Go.Proofs.Ytpjajiambbobhaa

theorem Found.span {ps : List Nd} {zs : List Int} {many : Int} {v : V4} {ticks after t : Int} {xs : List Nat} (h : Found ps zs many v ticks after t xs) : spanL t (t + ticks) v = true := by
  have := h.ge; have := h.fin; have := h.ticks1
  simp [spanL, h.right]; omega

/-- taking what was found -/
theorem Found.take {ps ps' : List Nd} {zs : List Int} {many : Int} {v : V4} {ticks after t r : Int} {xs : List Nat} (h : Found ps zs many v ticks after t xs) (hi : ∀ i, i < ps.length → Loose (nd ps i).l)
    (ht : TookG ps (ints xs) t (t + ticks) v r ps') : r = 0 ∧ ∀ i, i < ps.length → (i ∈ xs → ∀ u, 0 ≤ u → u < 1099511627776 → val (nd ps' i).l u = if t ≤ u ∧ u < t + ticks then sub4 (val (nd ps i).l u) v else val (nd ps i).l u) ∧ (¬ i ∈ xs → (nd ps' i).l = (nd ps i).l) := by
  obtain ⟨g1, g2, g3⟩ := h.gang
  have h0 : 0 ≤ t := by have := h.ge; omega
  rcases ht with ⟨a, _⟩ | ⟨_, _, a, _⟩ | ⟨_, _, _, rfl, a⟩
  · exact absurd ⟨g1, h.span⟩ a
  · refine absurd (fun i hi2 ha u u1 u2 => ?_) a
    exact (okAt_iff (hi i hi2) h0 h.ticks1).1 (g2 i (among_ints.1 ha)).2.2.1 u u1 u2
  · exact ⟨rfl, fun i hi2 => ⟨fun hx => (a i hi2).1 (among_ints.2 hx), fun hx => (a i hi2).2 (fun c => hx (among_ints.1 c))⟩⟩

/-- giving it back -/
theorem Found.back {ps ps' ps2 : List Nd} {zs : List Int} {many : Int} {v : V4} {ticks after t r r' : Int} {xs : List Nat} (h : Found ps zs many v ticks after t xs) (hi : ∀ i, i < ps.length → Inv (nd ps i).whole (nd ps i).l)
    (hlen : ps'.length = ps.length) (hw : ∀ i, i < ps.length → (nd ps' i).whole = (nd ps i).whole) (hlen2 : ps2.length = ps'.length)
    (hi2 : ∀ i, i < ps2.length → Inv (nd ps2 i).whole (nd ps2 i).l)
    (ht : TookG ps (ints xs) t (t + ticks) v r ps') (hg : GaveG ps' (ints xs) t (t + ticks) v r' ps2) : r' = 0 ∧ SameL ps ps2 := by
  obtain ⟨g1, g2, g3⟩ := h.gang
  obtain ⟨b1, b2, b3, b4⟩ := spanL_true h.span
  obtain ⟨_, k⟩ := h.take (fun i hj => (hi i hj).loose) ht
  have hback : ∀ i, i < ps.length → i ∈ xs → ∀ u, t ≤ u → u < t + ticks → add4 (val (nd ps' i).l u) v = val (nd ps i).l u := fun i hj hx u h1 h2 => by
    rw [(k i hj).1 hx u (by omega) (by omega), if_pos ⟨h1, h2⟩]
    simp only [add4, sub4, Int.sub_add_cancel]
  rcases hg with ⟨a, _⟩ | ⟨_, _, a, _⟩ | ⟨_, _, _, rfl, a⟩
  · exact absurd ⟨by rw [hlen]; exact g1, h.span⟩ a
  · refine absurd (fun i hj ha u u1 u2 => ?_) a
    rw [hlen] at hj
    rw [hback i hj (among_ints.1 ha) u u1 u2, hw i hj]
    exact fits_iff.1 ((hi i hj).free u (by omega) (by omega)).2
  · refine ⟨rfl, fun i hj => ?_⟩
    have e := a i (by omega)
    by_cases hx : i ∈ xs
    · have hp := hi2 i (by omega)
      refine canon hp.loose (hi i hj).loose hp.unlike (hi i hj).unlike fun u u0 u1 => ?_
      rw [e.1 (among_ints.2 hx) u u0 u1]
      split
      · rename_i c; exact hback i hj hx u c.1 c.2
      · rename_i c; rw [(k i hj).1 hx u u0 u1, if_neg c]
    · rw [e.2 (fun c => hx (among_ints.1 c)), (k i hj).2 hx]
/-- what the first of them has free -/
theorem Found.less {ps ps' : List Nd} {zs : List Int} {many : Int} {v : V4} {ticks after t r : Int} {xs : List Nat} (h : Found ps zs many v ticks after t xs) (hi : ∀ i, i < ps.length → Inv (nd ps i).whole (nd ps i).l)
    (hlen : ps'.length = ps.length) (hw : ∀ i, i < ps.length → (nd ps' i).whole = (nd ps i).whole) (hi' : ∀ i, i < ps'.length → Inv (nd ps' i).whole (nd ps' i).l)
    (ht : TookG ps (ints xs) t (t + ticks) v r ps') {j : Nat} (hj : j ∈ xs) : freeL (nd ps' j).whole (nd ps' j).l t (t + ticks) = sub4 (freeL (nd ps j).whole (nd ps j).l t (t + ticks)) v := by
  obtain ⟨_, k⟩ := h.take (fun i hj => (hi i hj).loose) ht
  have hjl := (h.gang.2.1 j hj).1
  have hp := hi' j (by omega)
  rw [hw j hjl] at hp ⊢
  exact (free_taken (hi j hjl) hp h.span ((k j hjl).1 hj)).1
theorem Found.wraps {ps ps' : List Nd} {zs : List Int} {many : Int} {v : V4} {ticks after t r : Int} {xs : List Nat} (h : Found ps zs many v ticks after t xs) (hi : ∀ i, i < ps.length → Inv (nd ps i).whole (nd ps i).l)
    (hlen : ps'.length = ps.length) (hw : ∀ i, i < ps.length → (nd ps' i).whole = (nd ps i).whole) (hi' : ∀ i, i < ps'.length → Inv (nd ps' i).whole (nd ps' i).l)
    (ht : TookG ps (ints xs) t (t + ticks) v r ps') {j : Nat} (hj : j ∈ xs) :
    IntKind.i64.wrap ((freeG ps j t (t + ticks)).a - v.a) = (freeG ps' j t (t + ticks)).a ∧ IntKind.i64.wrap ((freeG ps j t (t + ticks)).b - v.b) = (freeG ps' j t (t + ticks)).b ∧
    IntKind.i64.wrap ((freeG ps j t (t + ticks)).c - v.c) = (freeG ps' j t (t + ticks)).c ∧ IntKind.i64.wrap ((freeG ps j t (t + ticks)).d - v.d) = (freeG ps' j t (t + ticks)).d := by
  obtain ⟨_, k⟩ := h.take (fun i hj => (hi i hj).loose) ht
  have hjl := (h.gang.2.1 j hj).1
  have hp := hi' j (by omega)
  rw [hw j hjl] at hp
  obtain ⟨e, f1, f2, f3, f4⟩ := free_taken (hi j hjl) hp h.span ((k j hjl).1 hj)
  have c := (free_min (whole := (nd ps j).whole) hp.loose t (t + ticks)).cap
  have hr := right_iff.1 (hi j hjl).right
  obtain ⟨c1, c2, c3, c4⟩ := c
  have e1 : freeG ps j t (t + ticks) = freeL (nd ps j).whole (nd ps j).l t (t + ticks) := by unfold freeG; rw [if_pos (by omega)]; simp
  have e2 : freeG ps' j t (t + ticks) = freeL (nd ps j).whole (nd ps' j).l t (t + ticks) := by unfold freeG; rw [if_pos (by omega)]; simp [hw j hjl]
  rw [e1, e2]
  obtain ⟨X, hX⟩ : ∃ X, X = freeL (nd ps j).whole (nd ps j).l t (t + ticks) := ⟨_, rfl⟩
  obtain ⟨Y, hY⟩ : ∃ Y, Y = freeL (nd ps j).whole (nd ps' j).l t (t + ticks) := ⟨_, rfl⟩
  rw [← hX, ← hY] at e ⊢
  rw [← hY] at f1 f2 f3 f4 c1 c2 c3 c4
  have g1 : X.a - v.a = Y.a := by rw [e]; rfl
  have g2 : X.b - v.b = Y.b := by rw [e]; rfl
  have g3 : X.c - v.c = Y.c := by rw [e]; rfl
  have g4 : X.d - v.d = Y.d := by rw [e]; rfl
  rw [g1, g2, g3, g4]
  exact ⟨IntWalk.i64_in _ (by omega), IntWalk.i64_in _ (by omega), IntWalk.i64_in _ (by omega), IntWalk.i64_in _ (by omega)⟩
end Go.Proofs.Ytpjajiambbobhaa
