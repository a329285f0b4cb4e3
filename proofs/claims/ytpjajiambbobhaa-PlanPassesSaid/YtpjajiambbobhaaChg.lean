/- (*Profile).change: something is done to what is free over a span. -/
import Derived.Test.YtpjajiambbobhaaCompf
namespace Go.Proofs.Ytpjajiambbobhaa
open Go.RowKit

/-- g, done to what is free at the places from i to below e -/
def mapR (g : V4 → V4) (i e : Nat) (l : List St) : List St := l.take i ++ ((l.take e).drop i).map (fun s => ⟨s.t, g s.f⟩) ++ l.drop e

theorem mapR_self (g : V4 → V4) (i : Nat) (l : List St) : mapR g i i l = l := by
  have : (l.take i).drop i = [] := by rw [List.drop_eq_nil_iff]; simp; omega
  simp [mapR, this]
theorem mapR_length (g : V4 → V4) (i e : Nat) (l : List St) (h : i ≤ e) (he : e ≤ l.length) : (mapR g i e l).length = l.length := by
  simp [mapR]; omega
theorem nth_mapR (g : V4 → V4) (i e : Nat) (l : List St) (h : i ≤ e) (he : e ≤ l.length) (k : Nat) (hk : k < l.length) :
    nth (mapR g i e l) k = if i ≤ k ∧ k < e then ⟨(nth l k).t, g (nth l k).f⟩ else nth l k := by
  simp only [mapR, nth, List.getD_eq_getElem?_getD]
  by_cases h1 : k < i
  · rw [List.append_assoc, List.getElem?_append_left (by simp; omega), List.getElem?_take, if_pos h1, if_neg (by omega)]
  · by_cases h2 : k < e
    · rw [List.append_assoc, List.getElem?_append_right (by simp; omega), List.getElem?_append_left (by simp; omega), if_pos (by omega)]
      simp only [List.length_take, Nat.min_eq_left (show i ≤ l.length by omega), List.getElem?_map, List.getElem?_drop, List.getElem?_take]
      rw [if_pos (by omega), show i + (k - i) = k by omega, List.getElem?_eq_getElem hk]
      simp
    · rw [List.getElem?_append_right (by simp; omega), if_neg (by omega)]
      congr 1
      simp only [List.length_append, List.length_take, List.length_map, List.length_drop, List.getElem?_drop]
      congr 1
      omega
theorem ext_nth (l m : List St) (h : l.length = m.length) (h2 : ∀ k, k < l.length → nth l k = nth m k) : l = m := by
  apply List.ext_getElem h
  intro i h1 h3
  have := h2 i h1
  simpa [nth, h1, h3] using this
theorem mapR_succ (g : V4 → V4) (i e : Nat) (l : List St) (h : i ≤ e) (he : e < l.length) : mapR g i (e + 1) l = (mapR g i e l).set e ⟨(nth l e).t, g (nth l e).f⟩ := by
  have e1 := mapR_length g i (e + 1) l (by omega) (by omega)
  have e2 := mapR_length g i e l h (by omega)
  refine ext_nth _ _ (by simp [e1, e2]) fun k hk => ?_
  rw [e1] at hk
  rw [nth_mapR g i (e + 1) l (by omega) (by omega) k hk, nth_set _ _ _ _ (by omega), nth_mapR g i e l h (by omega) k hk]
  by_cases hke : k = e
  · subst hke; simp [h]
  · by_cases h3 : i ≤ k ∧ k < e
    · rw [if_pos (by omega), if_neg hke, if_pos h3]
    · rw [if_neg (by omega), if_neg hke, if_neg h3]

def CutRel (l : List St) (t : Int) (n : Nat) (l' : List St) : Prop :=
  ∃ k, IsPlace l t k ∧ (((nth l k).t = t ∧ l' = l ∧ n = k) ∨ ((nth l k).t ≠ t ∧ l' = cutAt l k t ∧ n = k + 1))

theorem nth_cutAt (l : List St) (k : Nat) (t : Int) (hk : k < l.length) (j : Nat) (hj : j < l.length + 1) :
    nth (cutAt l k t) j = if j ≤ k then nth l j else if j = k + 1 then ⟨t, (nth l k).f⟩ else nth l (j - 1) := by
  simp only [cutAt]
  by_cases h1 : j ≤ k
  · rw [if_pos h1, nth_append_left _ _ _ (by simp; omega), nth_take l (k + 1) j (by omega)]
  · rw [if_neg h1]
    obtain ⟨d, rfl⟩ : ∃ d, j = k + 1 + d := ⟨j - (k + 1), by omega⟩
    have e : nth (l.take (k + 1) ++ ⟨t, (nth l k).f⟩ :: l.drop (k + 1)) (k + 1 + d) = nth (⟨t, (nth l k).f⟩ :: l.drop (k + 1)) d := by
      simp only [nth, List.getD_eq_getElem?_getD]
      rw [List.getElem?_append_right (by simp; omega)]
      congr 2
      simp; omega
    rw [e]
    cases d with
    | zero => simp [nth]
    | succ d =>
      rw [if_neg (by omega), show k + 1 + (d + 1) - 1 = k + 1 + d by omega]
      simp [nth]

theorem CutRel.facts {l l' : List St} {t : Int} {n : Nat} (h : CutRel l t n l') (hl : Loose l) (ht : t < 1099511627776) :
    Loose l' ∧ n < l'.length ∧ (nth l' n).t = t ∧ l.length ≤ l'.length ∧ (∀ j, j < l.length → (nth l j).t < t → j < n ∧ nth l' j = nth l j) ∧ (∀ j, j < l'.length → ∃ i, i < l.length ∧ (nth l' j).f = (nth l i).f) := by
  obtain ⟨k, hk, h⟩ := h
  obtain ⟨k1, k2, k3⟩ := hk
  rcases h with ⟨h1, rfl, rfl⟩ | ⟨h1, rfl, rfl⟩
  · refine ⟨hl, k1, h1, Nat.le_refl _, fun j hj h2 => ⟨?_, rfl⟩, fun j hj => ⟨j, hj, rfl⟩⟩
    apply Classical.byContradiction
    intro hc
    by_cases e : j = n
    · subst e; omega
    · have := hl.rise n j (by omega) hj; omega
  · have hlen := cutAt_length l k t k1
    have hn := nth_cutAt l k t k1
    have hlt : (nth l k).t < t := by omega
    refine ⟨⟨by omega, by rw [hn 0 (by omega), if_pos (by omega)]; exact hl.zero, ?_, ?_⟩, by omega, ?_, by omega, ?_, ?_⟩
    · intro i j hij hj
      rw [hlen] at hj
      rw [hn i (by omega), hn j (by omega)]
      by_cases hi1 : i ≤ k
      · rw [if_pos hi1]
        have hik : (nth l i).t ≤ (nth l k).t := by
          by_cases e : i = k
          · subst e; omega
          · have := hl.rise i k (by omega) k1; omega
        by_cases hj1 : j ≤ k
        · rw [if_pos hj1]; exact hl.rise i j hij (by omega)
        · rw [if_neg hj1]
          by_cases hj2 : j = k + 1
          · rw [if_pos hj2]; show (nth l i).t < t; omega
          · rw [if_neg hj2]; exact hl.rise i (j - 1) (by omega) (by omega)
      · rw [if_neg hi1, if_neg (show ¬ j ≤ k by omega), if_neg (show ¬ j = k + 1 by omega)]
        by_cases hi2 : i = k + 1
        · rw [if_pos hi2]; show t < _; exact k3 (j - 1) (by omega) (by omega)
        · rw [if_neg hi2]; exact hl.rise (i - 1) (j - 1) (by omega) (by omega)
    · intro i hi
      rw [hlen] at hi
      rw [hn i hi]
      split
      · exact hl.last i (by omega)
      · split
        · exact ht
        · exact hl.last (i - 1) (by omega)
    · rw [hn (k + 1) (by omega), if_neg (by omega), if_pos rfl]
    · intro j hj h2
      have : j ≤ k := by
        apply Classical.byContradiction
        intro hc
        have := k3 j (by omega) hj; omega
      exact ⟨by omega, by rw [hn j (by omega), if_pos this]⟩
    · intro j hj
      rw [hlen] at hj
      rw [hn j hj]
      split
      · exact ⟨j, by omega, rfl⟩
      · split
        · exact ⟨k, k1, rfl⟩
        · exact ⟨j - 1, by omega, rfl⟩

theorem cut_rel (pb sb cap : Nat) (whole : V4) (l : List St) (t : Int) (w : World) (hp : Prof w pb sb cap whole l) (hl : Loose l) (h3 : 0 ≤ t) (h4 : t ≤ 1099511627776) :
    Calls Try.prog 96 #[.pointer (some ⟨pb, 0, none⟩), .int .i64 t] w fun e w' => ∃ (n sb' cap' : Nat) (l' : List St), e = .returned (.int .i64 n) ∧ CutRel l t n l' ∧ Prof w' pb sb' cap' whole l' ∧ (sb' = sb ∨ w.heap.size ≤ sb') ∧ Mod (· = pb) w w' :=
  (cut_any pb sb cap whole l t w hp hl h3 h4).mono fun _ _ ⟨n, k, sb', cap', l', he, hk, h, hp', hm⟩ => ⟨n, sb', cap', l', he, ⟨k, hk, by rcases h with h | h; exact .inl ⟨h.1, h.2.1, h.2.2.1⟩; exact .inr ⟨h.1, h.2.1, h.2.2.1⟩⟩, hp', by rcases h with h | h; exact .inl h.2.2.2.1; exact .inr h.2.2.2, hm⟩
end Go.Proofs.Ytpjajiambbobhaa
