/- The document's example of a pool, plainly: what is taken, and what is found then. -/
import Derived.Test.YtpjajiambbobhaaFind
import Derived.Test.YtpjajiambbobhaaEarlp
namespace Go.Proofs.Ytpjajiambbobhaa

def two4 : V4 := ⟨2, 0, 0, 0⟩
theorem gang_one : Gang 2 [0] := by
  refine ⟨by decide, fun i hi => ?_, fun i hi => ?_, fun i hi => ?_⟩
  · have h : i = 0 := by have : i < 1 := hi; omega
    subst h; decide
  · have h : i = 0 := by have : i < 1 := hi; omega
    subst h; decide
  · have : i + 1 < 1 := hi; omega
theorem awk_take {ps ps' : List Nd} {r : Int} (hlen : ps.length = 2) (hst : ∀ i, i < 2 → (nd ps i).whole = two4 ∧ (nd ps i).l = [⟨0, two4⟩]) (h : TookG ps [0] 0 4 ⟨1, 0, 0, 0⟩ r ps') :
    r = 0 ∧ (∀ u, 0 ≤ u → u < 1099511627776 → val (nd ps' 0).l u = if u < 4 then ⟨1, 0, 0, 0⟩ else two4) ∧ ∀ u, 0 ≤ u → u < 1099511627776 → val (nd ps' 1).l u = two4 := by
  have hv : ∀ i, i < 2 → ∀ u, 0 ≤ u → val (nd ps i).l u = two4 := fun i hi u hu => by rw [(hst i hi).2]; simp [val, valR, hu]
  have hs : spanL 0 4 ⟨1, 0, 0, 0⟩ = true := by decide
  unfold TookG at h
  rw [hlen] at h
  rcases h with ⟨h, _⟩ | ⟨_, _, h, _⟩ | ⟨_, _, _, rfl, h⟩
  · exact absurd ⟨gang_one, hs⟩ h
  · refine absurd (fun i hi ha u h1 h2 => ?_) h
    rw [hv i hi u h1]; exact ⟨by decide, by decide, by decide, by decide⟩
  · refine ⟨rfl, fun u u0 u1 => ?_, fun u u0 u1 => ?_⟩
    · rw [(h 0 (by omega)).1 (by decide) u u0 u1, hv 0 (by omega) u u0]
      by_cases e : u < 4
      · rw [if_pos ⟨u0, e⟩, if_pos e]; rfl
      · rw [if_neg (fun c => e c.2), if_neg e]
    · rw [(h 1 (by omega)).2 (by decide), hv 1 (by omega) u u0]

theorem sel_two {ps : List Nd} (hlen : ps.length = 2) (zs : List Int) (ticks : Int) (v : V4) (u : Int) :
    sel ps zs ticks v u = (if pick ps zs ticks v u 0 = true then [0] else []) ++ (if pick ps zs ticks v u 1 = true then [1] else []) := by
  have hp : ∀ j, 2 ≤ j → pick ps zs ticks v u j = false := fun j hj => by
    unfold pick; rw [hlen]
    simp; omega
  unfold sel selk
  rw [show List.range 16 = [0, 1, 2, 3, 4, 5, 6, 7, 8, 9, 10, 11, 12, 13, 14, 15] from rfl]
  cases h0 : pick ps zs ticks v u 0 <;> cases h1 : pick ps zs ticks v u 1 <;>
    simp [List.filter, h0, h1, hp 2, hp 3, hp 4, hp 5, hp 6, hp 7, hp 8, hp 9, hp 10, hp 11, hp 12, hp 13, hp 14, hp 15]

theorem awk_ok0 {ps : List Nd} (hi : ∀ i, i < 2 → Loose (nd ps i).l) (h0 : ∀ u, 0 ≤ u → u < 1099511627776 → val (nd ps 0).l u = if u < 4 then ⟨1, 0, 0, 0⟩ else two4) {u : Int} (hu : 0 ≤ u) : OkT (nd ps 0).l 3 two4 u ↔ 4 ≤ u ∧ u + 3 ≤ 1099511627776 := by
  unfold OkT
  rw [okAt_iff (hi 0 (by omega)) hu (by omega)]
  constructor
  · rintro ⟨h, h2⟩
    refine ⟨Int.not_lt.1 fun hc => ?_, h2⟩
    have := h u (Int.le_refl _) (by omega)
    rw [h0 u hu (by omega), if_pos hc] at this
    exact absurd this.1 (by decide)
  · rintro ⟨a, b⟩
    refine ⟨fun x x1 x2 => ?_, b⟩
    rw [h0 x (by omega) (by omega), if_neg (by omega)]
    exact V4.leq.refl _
theorem awk_ok1 {ps : List Nd} (hi : ∀ i, i < 2 → Loose (nd ps i).l) (h1 : ∀ u, 0 ≤ u → u < 1099511627776 → val (nd ps 1).l u = two4) {u : Int} (hu : 0 ≤ u) : OkT (nd ps 1).l 3 two4 u ↔ u + 3 ≤ 1099511627776 := by
  unfold OkT
  rw [okAt_iff (hi 1 (by omega)) hu (by omega)]
  refine ⟨fun h => h.2, fun b => ⟨fun x x1 x2 => ?_, b⟩⟩
  rw [h1 x (by omega) (by omega)]
  exact V4.leq.refl _
theorem awk_find1 {ps : List Nd} (hlen : ps.length = 2) (hi : ∀ i, i < 2 → Loose (nd ps i).l) (h0 : ∀ u, 0 ≤ u → u < 1099511627776 → val (nd ps 0).l u = if u < 4 then ⟨1, 0, 0, 0⟩ else two4) (h1 : ∀ u, 0 ≤ u → u < 1099511627776 → val (nd ps 1).l u = two4) {t : Int} {xs : List Nat} {is : Bool} (h : FindRel ps [0, 1] 2 two4 3 0 t xs is) : t = 4 ∧ xs.length = 2 ∧ is = true := by
  unfold FindRel at h
  rw [if_pos ⟨by decide, by decide, by decide⟩] at h
  have p0 : ∀ u, 0 ≤ u → (pick ps [0, 1] 3 two4 u 0 = true ↔ 4 ≤ u ∧ u + 3 ≤ 1099511627776) := fun u hu => by
    rw [← awk_ok0 hi h0 hu]
    simp only [pick, Bool.and_eq_true, decide_eq_true_eq]
    exact ⟨fun h => h.2, fun h => ⟨⟨by omega, by decide⟩, h⟩⟩
  have p1 : ∀ u, 0 ≤ u → (pick ps [0, 1] 3 two4 u 1 = true ↔ u + 3 ≤ 1099511627776) := fun u hu => by
    rw [← awk_ok1 hi h1 hu]
    simp only [pick, Bool.and_eq_true, decide_eq_true_eq]
    exact ⟨fun h => h.2, fun h => ⟨⟨by omega, by decide⟩, h⟩⟩
  have s4 : (sel ps [0, 1] 3 two4 4).length = 2 := by
    rw [sel_two hlen, if_pos ((p0 4 (by omega)).2 (by omega)), if_pos ((p1 4 (by omega)).2 (by omega))]; rfl
  rcases h with ⟨hb, ht0, ht1, hx, ⟨r, hr⟩, hmin⟩ | ⟨_, _, _, hno⟩
  · refine ⟨?_, by omega, hb⟩
    have hl : 2 ≤ (sel ps [0, 1] 3 two4 t).length := by rw [hr, List.length_append]; omega
    have h4 : 4 ≤ t := by
      apply Classical.byContradiction
      intro hc
      have : ¬ pick ps [0, 1] 3 two4 t 0 = true := fun h => hc ((p0 t (by omega)).1 h).1
      rw [sel_two hlen, if_neg this] at hl
      split at hl <;> simp at hl
    apply Classical.byContradiction
    intro hc
    have := hmin 4 (by omega) (by omega)
    omega
  · have := hno 4 (by omega) (by omega); omega
theorem awk_find2 {ps : List Nd} (hlen : ps.length = 2) (hi : ∀ i, i < 2 → Loose (nd ps i).l) (h0 : ∀ u, 0 ≤ u → u < 1099511627776 → val (nd ps 0).l u = if u < 4 then ⟨1, 0, 0, 0⟩ else two4) (h1 : ∀ u, 0 ≤ u → u < 1099511627776 → val (nd ps 1).l u = two4) {t : Int} {xs : List Nat} {is : Bool} (h : FindRel ps [1, 0] 1 two4 3 0 t xs is) : t = 0 ∧ xs = [1] ∧ is = true := by
  unfold FindRel at h
  rw [if_pos ⟨by decide, by decide, by decide⟩] at h
  have p0 : ¬ pick ps [1, 0] 3 two4 0 0 = true := fun h => by
    unfold pick at h
    simp only [Bool.and_eq_true, decide_eq_true_eq] at h
    have := (awk_ok0 hi h0 (u := 0) (by omega)).1 h.2
    omega
  have p1 : pick ps [1, 0] 3 two4 0 1 = true := by
    simp only [pick, Bool.and_eq_true, decide_eq_true_eq]
    exact ⟨⟨by omega, by decide⟩, (awk_ok1 hi h1 (by omega)).2 (by omega)⟩
  have s0 : sel ps [1, 0] 3 two4 0 = [1] := by rw [sel_two hlen, if_neg p0, if_pos p1]; rfl
  rcases h with ⟨hb, ht0, ht1, hx, ⟨r, hr⟩, hmin⟩ | ⟨_, _, _, hno⟩
  · have ht : t = 0 := by
      apply Classical.byContradiction
      intro hc
      have := hmin 0 (by omega) (by omega)
      rw [s0] at this; simp at this
    subst ht
    refine ⟨rfl, ?_, hb⟩
    rw [s0] at hr
    match xs, hx with
    | [x], _ => simp at hr; rw [hr.1]
  · have := hno 0 (by omega) (by omega)
    rw [s0] at this; simp at this
end Go.Proofs.Ytpjajiambbobhaa
