/- What is free at a tick, by steps; what becomes of it; steps that tell the same are the same. -/
import Derived.Test.YtpjajiambbobhaaEarly
import Derived.Test.YtpjajiambbobhaaGive
namespace Go.Proofs.Ytpjajiambbobhaa
open Go.RowKit

/-- what is free at a tick -/
def valR (d : V4) : List St → Int → V4
  | [], _ => d
  | s :: r, u => if s.t ≤ u then valR s.f r u else d
def val (l : List St) (u : Int) : V4 := valR V4.zero l u

def Rise : List St → Prop
  | [] => True
  | s :: r => (∀ x ∈ r, s.t < x.t) ∧ Rise r
theorem mem_nth {l : List St} {x : St} (h : x ∈ l) : ∃ i, i < l.length ∧ nth l i = x := by
  obtain ⟨i, hi, rfl⟩ := List.mem_iff_getElem.1 h
  exact ⟨i, hi, by simp [nth, hi]⟩
theorem nth_mem {l : List St} {i : Nat} (h : i < l.length) : nth l i ∈ l := by
  simp [nth, h]
theorem rise_of (l : List St) (h : Rising l) : Rise l := by
  induction l with
  | nil => trivial
  | cons s r ih =>
    refine ⟨fun x hx => ?_, ih (rising_tail h)⟩
    obtain ⟨i, hi, rfl⟩ := mem_nth hx
    have := h 0 (i + 1) (by omega) (by simpa using hi)
    rwa [nth_zero, nth_succ] at this
theorem rising_of (l : List St) (h : Rise l) : Rising l := by
  induction l with
  | nil => intro i j _ hj; simp at hj
  | cons s r ih =>
    intro i j hij hj
    cases j with
    | zero => omega
    | succ j =>
      cases i with
      | zero => rw [nth_zero, nth_succ]; exact h.1 _ (nth_mem (by simpa using hj))
      | succ i => rw [nth_succ, nth_succ]; exact ih h.2 i j (by omega) (by simpa using hj)

theorem valR_low {d : V4} {l : List St} {u : Int} (h : ∀ x ∈ l, u < x.t) : valR d l u = d := by
  cases l with
  | nil => rfl
  | cons s r => simp only [valR]; rw [if_neg (by have := h s (by simp); omega)]
theorem valR_place {d : V4} {l : List St} {u : Int} {k : Nat} (hr : Rising l) (h : IsPlace l u k) : valR d l u = (nth l k).f := by
  induction l generalizing d k with
  | nil => exact absurd h.1 (by simp)
  | cons s r ih =>
    obtain ⟨h1, h2, h3⟩ := h
    simp only [valR]
    cases k with
    | zero =>
      rw [nth_zero] at h2 ⊢
      rw [if_pos h2, valR_low]
      intro x hx
      obtain ⟨i, hi, rfl⟩ := mem_nth hx
      have := h3 (i + 1) (by omega) (by simpa using hi)
      rwa [nth_succ] at this
    | succ k =>
      have h0 := hr 0 (k + 1) (by omega) h1
      rw [nth_succ] at h2 h0 ⊢
      rw [nth_zero] at h0
      rw [if_pos (by omega)]
      exact ih (rising_tail hr) ⟨by simpa using h1, h2, fun j hj hj2 => by have := h3 (j + 1) (by omega) (by simpa using hj2); rwa [nth_succ] at this⟩
theorem val_place {l : List St} {u : Int} {k : Nat} (hr : Rising l) (h : IsPlace l u k) : val l u = (nth l k).f := valR_place hr h
theorem place_ex {l : List St} (hl : Loose l) {u : Int} (hu : 0 ≤ u) : ∃ k, IsPlace l u k := by
  have key : ∀ n, n < l.length → (∃ k, IsPlace l u k) ∨ (nth l n).t ≤ u := by
    intro n
    induction n with
    | zero => intro _; right; rw [hl.zero]; exact hu
    | succ n ih =>
      intro hn
      rcases ih (by omega) with h | h
      · exact .inl h
      · by_cases hc : (nth l (n + 1)).t ≤ u
        · exact .inr hc
        · refine .inl ⟨n, by omega, h, fun j hj hj2 => ?_⟩
          by_cases e : j = n + 1
          · subst e; omega
          · have := hl.rise (n + 1) j (by omega) hj2; omega
  have hp := hl.pos
  rcases key (l.length - 1) (by omega) with h | h
  · exact h
  · exact ⟨l.length - 1, by omega, h, fun j hj hj2 => by omega⟩

theorem cut_val {l l' : List St} {t : Int} {n : Nat} (hl : Loose l) (h : CutRel l t n l') (ht : t < 1099511627776) {u : Int} (hu : 0 ≤ u) : val l' u = val l u := by
  obtain ⟨hl', _, _, _, _, _⟩ := h.facts hl ht
  obtain ⟨k, hk, h⟩ := h
  rcases h with ⟨_, rfl, _⟩ | ⟨h1, rfl, rfl⟩
  · rfl
  · obtain ⟨j, hj⟩ := place_ex hl hu
    rw [val_place hl.rise hj]
    obtain ⟨k1, k2, k3⟩ := hk
    obtain ⟨j1, j2, j3⟩ := hj
    have hn := nth_cutAt l k t k1
    have hlen := cutAt_length l k t k1
    by_cases hjk : j < k
    · rw [val_place hl'.rise (k := j) ⟨by omega, by rw [hn j (by omega), if_pos (by omega)]; exact j2, fun i hi hi2 => ?_⟩, hn j (by omega), if_pos (by omega)]
      have h3 := j3 (j + 1) (by omega) (by omega)
      have h4 : (nth (cutAt l k t) (j + 1)).t = (nth l (j + 1)).t := by rw [hn (j + 1) (by omega), if_pos (by omega)]
      by_cases e : i = j + 1
      · subst e; omega
      · have := hl'.rise (j + 1) i (by omega) hi2; omega
    · by_cases hut : t ≤ u
      · have e : (nth (cutAt l k t) (j + 1)).f = (nth l j).f ∧ (nth (cutAt l k t) (j + 1)).t ≤ u := by
          rw [hn (j + 1) (by omega), if_neg (by omega)]
          by_cases e : j = k
          · subst e; rw [if_pos rfl]; exact ⟨rfl, hut⟩
          · rw [if_neg (by omega), Nat.add_sub_cancel]; exact ⟨rfl, j2⟩
        rw [val_place hl'.rise (k := j + 1) ⟨by omega, e.2, fun i hi hi2 => ?_⟩, e.1]
        rw [hn i (by omega), if_neg (by omega), if_neg (by omega)]
        exact j3 (i - 1) (by omega) (by omega)
      · have hjk2 : j = k := by
          apply Classical.byContradiction
          intro hc
          have := k3 j (by omega) j1; omega
        subst hjk2
        rw [val_place hl'.rise (k := j) ⟨by omega, by rw [hn j (by omega), if_pos (by omega)]; exact j2, fun i hi hi2 => ?_⟩, hn j (by omega), if_pos (by omega)]
        rw [hn i (by omega), if_neg (by omega)]
        split
        · show u < t; omega
        · exact j3 (i - 1) (by omega) (by omega)

theorem mapR_val {l : List St} (hl : Loose l) (g : V4 → V4) {i e : Nat} (h : i ≤ e) (he : e ≤ l.length) {u : Int} {k : Nat} (hk : IsPlace l u k) :
    val (mapR g i e l) u = if i ≤ k ∧ k < e then g (val l u) else val l u := by
  have hn := nth_mapR g i e l h he
  have hlen := mapR_length g i e l h he
  have ht : ∀ j, j < l.length → (nth (mapR g i e l) j).t = (nth l j).t := fun j hj => by rw [hn j hj]; split <;> rfl
  have hr : Rising (mapR g i e l) := fun a b hab hb => by rw [hlen] at hb; rw [ht a (by omega), ht b hb]; exact hl.rise a b hab hb
  rw [val_place hr (k := k) ⟨by rw [hlen]; exact hk.1, by rw [ht k hk.1]; exact hk.2.1, fun j hj hj2 => by rw [hlen] at hj2; rw [ht j hj2]; exact hk.2.2 j hj hj2⟩, hn k hk.1, val_place hl.rise hk]
  split <;> rfl

theorem mapR_loose {l : List St} (hl : Loose l) (g : V4 → V4) {i e : Nat} (h : i ≤ e) (he : e ≤ l.length) : Loose (mapR g i e l) := by
  have hn := nth_mapR g i e l h he
  have hlen := mapR_length g i e l h he
  have ht : ∀ j, j < l.length → (nth (mapR g i e l) j).t = (nth l j).t := fun j hj => by rw [hn j hj]; split <;> rfl
  have hp := hl.pos
  exact ⟨by omega, by rw [ht 0 hp]; exact hl.zero, fun a b hab hb => by rw [hlen] at hb; rw [ht a (by omega), ht b hb]; exact hl.rise a b hab hb, fun j hj => by rw [hlen] at hj; rw [ht j hj]; exact hl.last j hj⟩

/-! comp -/
theorem compFrom_sub (p : V4) (l : List St) : ∀ x ∈ compFrom p l, x ∈ l := by
  induction l generalizing p with
  | nil => simp [compFrom]
  | cons s r ih =>
    intro x hx
    simp only [compFrom] at hx
    split at hx
    · exact List.mem_cons_of_mem _ (ih _ x hx)
    · rcases List.mem_cons.1 hx with rfl | h
      · simp
      · exact List.mem_cons_of_mem _ (ih _ x h)
theorem compFrom_rise (p : V4) (l : List St) (h : Rise l) : Rise (compFrom p l) := by
  induction l generalizing p with
  | nil => exact h
  | cons s r ih =>
    simp only [compFrom]
    split
    · exact ih _ h.2
    · exact ⟨fun x hx => h.1 x (compFrom_sub _ _ x hx), ih _ h.2⟩
theorem compFrom_val (p : V4) (l : List St) (h : Rise l) (u : Int) : valR p (compFrom p l) u = valR p l u := by
  induction l generalizing p with
  | nil => rfl
  | cons s r ih =>
    simp only [compFrom, valR]
    by_cases hs : s.f = p
    · rw [if_pos hs]
      have e := ih s.f h.2
      rw [hs] at e ⊢
      rw [e]
      by_cases hu : s.t ≤ u
      · rw [if_pos hu]
      · rw [if_neg hu]
        exact valR_low fun x hx => by have := h.1 x hx; omega
    · rw [if_neg hs]
      simp only [valR]
      rw [ih s.f h.2]
def Unl (p : V4) : List St → Prop
  | [] => True
  | s :: r => s.f ≠ p ∧ Unl s.f r
theorem compFrom_unl (p : V4) (l : List St) : Unl p (compFrom p l) := by
  induction l generalizing p with
  | nil => trivial
  | cons s r ih =>
    simp only [compFrom]
    split
    · next h => have := ih s.f; rw [h] at this ⊢; exact this
    · next h => exact ⟨h, ih s.f⟩
theorem unl_nth {p : V4} {l : List St} (h : Unl p l) : ∀ i, i + 1 < l.length → (nth l i).f ≠ (nth l (i + 1)).f := by
  induction l generalizing p with
  | nil => intro i hi; simp at hi
  | cons s r ih =>
    intro i hi
    cases i with
    | zero =>
      cases r with
      | nil => simp at hi
      | cons s2 r2 => rw [nth_zero, nth_succ, nth_zero]; exact Ne.symm h.2.1
    | succ i => rw [nth_succ, nth_succ]; exact ih h.2 i (by simpa using hi)
theorem nth_unl (s : St) (r : List St) (h : ∀ i, i + 1 < (s :: r).length → (nth (s :: r) i).f ≠ (nth (s :: r) (i + 1)).f) : Unl s.f r := by
  induction r generalizing s with
  | nil => trivial
  | cons s2 r ih =>
    refine ⟨?_, ih s2 fun i hi => ?_⟩
    · have := h 0 (by simp); rw [nth_zero, nth_succ, nth_zero] at this; exact Ne.symm this
    · have := h (i + 1) (by simpa using hi); rwa [nth_succ, nth_succ] at this

theorem comp_facts {l : List St} (hl : Loose l) : Loose (comp l) ∧ (∀ u, val (comp l) u = val l u) ∧ (∀ x ∈ comp l, x ∈ l) ∧ (∀ i, i + 1 < (comp l).length → (nth (comp l) i).f ≠ (nth (comp l) (i + 1)).f) := by
  cases l with
  | nil => exact absurd hl.pos (by simp)
  | cons s r =>
    have hr := rise_of _ hl.rise
    have hsub : ∀ x ∈ comp (s :: r), x ∈ s :: r := by
      intro x hx
      rcases List.mem_cons.1 hx with rfl | h
      · simp
      · exact List.mem_cons_of_mem _ (compFrom_sub _ _ x h)
    refine ⟨⟨by simp [comp], hl.zero, rising_of _ ⟨fun x hx => hr.1 x (compFrom_sub _ _ x hx), compFrom_rise _ _ hr.2⟩, fun i hi => ?_⟩, fun u => ?_, hsub, ?_⟩
    · obtain ⟨j, hj, e⟩ := mem_nth (hsub _ (nth_mem hi))
      rw [← e]; exact hl.last j hj
    · simp only [comp, val, valR]
      rw [compFrom_val _ _ hr.2]
    · exact unl_nth (p := ⟨s.f.a + 1, 0, 0, 0⟩) ⟨fun h => by have := congrArg V4.a h; simp at this; omega, compFrom_unl s.f r⟩

/-- steps that tell the same are the same -/
theorem canon_from {a : V4} {r r' : List St} (t0 : Int) (h : Rise r) (h' : Rise r') (hu : Unl a r) (hu' : Unl a r') (hb : ∀ x ∈ r, t0 ≤ x.t ∧ x.t < 1099511627776) (hb' : ∀ x ∈ r', t0 ≤ x.t ∧ x.t < 1099511627776)
    (he : ∀ u, t0 ≤ u → u < 1099511627776 → valR a r u = valR a r' u) : r = r' := by
  induction r generalizing a r' t0 with
  | nil =>
    cases r' with
    | nil => rfl
    | cons s' q' =>
      exfalso
      have := he s'.t (hb' s' (by simp)).1 (hb' s' (by simp)).2
      simp only [valR] at this
      rw [if_pos (Int.le_refl _), valR_low h'.1] at this
      exact hu'.1 this.symm
  | cons s q ih =>
    cases r' with
    | nil =>
      exfalso
      have := he s.t (hb s (by simp)).1 (hb s (by simp)).2
      simp only [valR] at this
      rw [if_pos (Int.le_refl _), valR_low h.1] at this
      exact hu.1 this
    | cons s' q' =>
      have b := hb s (by simp)
      have b' := hb' s' (by simp)
      have e1 := he s.t b.1 b.2
      have e2 := he s'.t b'.1 b'.2
      simp only [valR] at e1 e2
      rw [if_pos (Int.le_refl _), valR_low h.1] at e1
      rw [if_pos (Int.le_refl s'.t), valR_low h'.1] at e2
      have ht : s.t = s'.t := by
        apply Classical.byContradiction
        intro hc
        by_cases hlt : s.t < s'.t
        · rw [if_neg (by omega)] at e1; exact hu.1 e1
        · rw [if_neg (by omega)] at e2; exact hu'.1 e2.symm
      rw [if_pos (by omega)] at e1
      have hlow : valR s'.f q' s.t = s'.f := valR_low (by rw [ht]; exact h'.1)
      rw [hlow] at e1
      have hs : s = s' := by
        obtain ⟨st, sf⟩ := s; obtain ⟨st', sf'⟩ := s'
        simp at ht e1; rw [ht, e1]
      subst hs
      rw [ih s.t h.2 h'.2 hu.2 hu'.2 (fun x hx => ⟨by have := h.1 x hx; omega, (hb x (by simp [hx])).2⟩) (fun x hx => ⟨by have := h'.1 x hx; omega, (hb' x (by simp [hx])).2⟩) fun u h1 h2 => ?_]
      have := he u (by omega) h2
      simp only [valR] at this
      rwa [if_pos h1, if_pos h1] at this

theorem canon {l l' : List St} (hl : Loose l) (hl' : Loose l') (hu : ∀ i, i + 1 < l.length → (nth l i).f ≠ (nth l (i + 1)).f) (hu' : ∀ i, i + 1 < l'.length → (nth l' i).f ≠ (nth l' (i + 1)).f)
    (he : ∀ u, 0 ≤ u → u < 1099511627776 → val l u = val l' u) : l = l' := by
  cases l with
  | nil => exact absurd hl.pos (by simp)
  | cons s r =>
    cases l' with
    | nil => exact absurd hl'.pos (by simp)
    | cons s' r' =>
      have hr := rise_of _ hl.rise; have hr' := rise_of _ hl'.rise
      have z : s.t = 0 := hl.zero
      have z' : s'.t = 0 := hl'.zero
      have hb : ∀ x ∈ r, 0 ≤ x.t ∧ x.t < 1099511627776 := fun x hx => by
        have := hr.1 x hx
        obtain ⟨j, hj, e⟩ := mem_nth (List.mem_cons_of_mem s hx)
        exact ⟨by omega, by rw [← e]; exact hl.last j hj⟩
      have hb' : ∀ x ∈ r', 0 ≤ x.t ∧ x.t < 1099511627776 := fun x hx => by
        have := hr'.1 x hx
        obtain ⟨j, hj, e⟩ := mem_nth (List.mem_cons_of_mem s' hx)
        exact ⟨by omega, by rw [← e]; exact hl'.last j hj⟩
      have e0 := he 0 (Int.le_refl _) (by omega)
      simp only [val, valR] at e0
      rw [if_pos (by omega), if_pos (by omega), valR_low (fun x hx => by have := hr.1 x hx; omega), valR_low (fun x hx => by have := hr'.1 x hx; omega)] at e0
      have hs : s = s' := by
        obtain ⟨st, sf⟩ := s; obtain ⟨st', sf'⟩ := s'
        simp at z z' e0; rw [z, z', e0]
      subst hs
      rw [canon_from 0 hr.2 hr'.2 (nth_unl s r hu) (nth_unl s r' hu') hb hb' fun u h1 h2 => ?_]
      have := he u h1 h2
      simp only [val, valR] at this
      rwa [if_pos (by omega), if_pos (by omega)] at this
end Go.Proofs.Ytpjajiambbobhaa
