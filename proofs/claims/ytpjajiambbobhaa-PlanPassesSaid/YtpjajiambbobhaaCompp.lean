/- slices.CompactFunc over steps: neighbours that are alike become one. -/
import Derived.Test.YtpjajiambbobhaaSteps
namespace Go.Proofs.Ytpjajiambbobhaa
open Go.RowKit

/-! the plain function -/
def compFrom (p : V4) : List St → List St
  | [] => []
  | s :: r => if s.f = p then compFrom s.f r else s :: compFrom s.f r
def comp : List St → List St
  | [] => []
  | s :: r => s :: compFrom s.f r
def lastF (p : V4) : List St → V4
  | [] => p
  | s :: r => lastF s.f r

theorem compFrom_snoc (p : V4) (l : List St) (x : St) : compFrom p (l ++ [x]) = compFrom p l ++ (if x.f = lastF p l then [] else [x]) := by
  induction l generalizing p with
  | nil => by_cases h : x.f = p <;> simp [compFrom, lastF, h]
  | cons s r ih =>
    simp only [List.cons_append, compFrom, lastF]; rw [ih]
    by_cases h : s.f = p <;> by_cases h2 : x.f = lastF s.f r <;> simp [h, h2]
theorem comp_snoc (l : List St) (x : St) (h : 0 < l.length) : comp (l ++ [x]) = comp l ++ (if x.f = (nth l (l.length - 1)).f then [] else [x]) := by
  have key : ∀ (l : List St) (p : V4), lastF p l = if 0 < l.length then (nth l (l.length - 1)).f else p := by
    intro l
    induction l with
    | nil => intro p; simp [lastF]
    | cons s r ih =>
      intro p
      simp only [lastF]
      rw [ih]
      cases r with
      | nil => simp [nth]
      | cons s2 r2 => simp [nth]
  cases l with
  | nil => simp at h
  | cons s r =>
    simp only [List.cons_append, comp]
    rw [compFrom_snoc, key]
    cases r with
    | nil => simp [nth]
    | cons s2 r2 => simp [nth]
theorem nth_append_left (l m : List St) (i : Nat) (h : i < l.length) : nth (l ++ m) i = nth l i := by
  simp [nth, List.getElem?_append_left h]
theorem nth_take (l : List St) (n i : Nat) (h : i < n) : nth (l.take n) i = nth l i := by
  simp [nth, h]
theorem nth_set (l : List St) (n i : Nat) (s : St) (h : n < l.length) : nth (l.set n s) i = if i = n then s else nth l i := by
  simp only [nth, List.getD_eq_getElem?_getD, List.getElem?_set]
  by_cases e : n = i
  · subst e; simp [h]
  · simp [e, Ne.symm e]
theorem take_succ_nth (l : List St) (n : Nat) (h : n < l.length) : l.take (n + 1) = l.take n ++ [nth l n] := by
  rw [List.take_succ_eq_append_getElem h]; simp [nth, h]
theorem comp_take_succ (l : List St) (n : Nat) (h0 : 0 < n) (h : n < l.length) : comp (l.take (n + 1)) = comp (l.take n) ++ (if (nth l n).f = (nth l (n - 1)).f then [] else [nth l n]) := by
  rw [take_succ_nth l n h, comp_snoc _ _ (by rw [List.length_take]; omega)]
  congr 2
  rw [List.length_take, Nat.min_eq_left (by omega), nth_take l n (n - 1) (by omega)]
theorem comp_id : ∀ (l : List St) (n : Nat), n ≤ l.length → (∀ i, 0 < i → i < n → (nth l i).f ≠ (nth l (i - 1)).f) → comp (l.take n) = l.take n := by
  intro l n hn h
  induction n with
  | zero => simp [comp]
  | succ n ih =>
    cases n with
    | zero =>
      cases l with
      | nil => simp at hn
      | cons s r => simp [comp, compFrom]
    | succ n =>
      rw [comp_take_succ l (n + 1) (by omega) (by omega), ih (by omega) (fun i h1 h2 => h i h1 (by omega)), if_neg (h (n + 1) (by omega) (by omega)), ← take_succ_nth l (n + 1) (by omega)]

/-! writing a step, clearing a row's end -/
theorem flat_set (l : List St) (i : Nat) (s : St) (hi : i < l.length) : flat (l.set i s) = (flat l).take (i * 5) ++ s.cells ++ (flat l).drop (i * 5 + 5) := by
  induction l generalizing i with
  | nil => simp at hi
  | cons a l ih =>
    cases i with
    | zero => simp [flat, St.cells]
    | succ i =>
      have e1 : (i + 1) * 5 = 5 + i * 5 := by omega
      have e2 : 5 + i * 5 + 5 = 5 + (i * 5 + 5) := by omega
      have ih' := ih i (by simpa using hi)
      simp only [flat] at ih' ⊢
      simp only [List.set_cons_succ, List.flatMap_cons, ih']
      rw [e1, e2]
      show _ = List.take (a.cells.length + i * 5) _ ++ _ ++ List.drop (a.cells.length + (i * 5 + 5)) _
      rw [List.take_length_add_append, List.drop_length_add_append]
      simp

theorem cells_set5 (cur : Array Value) (o : Nat) (a b c d e : Value) (h : o + 5 ≤ cur.size) :
    (((((cur.setIfInBounds o a).setIfInBounds (o + 1) b).setIfInBounds (o + 2) c).setIfInBounds (o + 3) d).setIfInBounds (o + 4) e).toList = cur.toList.take o ++ [a, b, c, d, e] ++ cur.toList.drop (o + 5) := by
  apply List.ext_getElem?
  intro i
  simp only [Array.toList_setIfInBounds, List.getElem?_set, List.length_set, Array.length_toList]
  rw [List.append_assoc]
  by_cases h1 : i < o
  · rw [List.getElem?_append_left (by simp; omega)]
    simp [h1, show o ≠ i by omega, show o + 1 ≠ i by omega, show o + 2 ≠ i by omega, show o + 3 ≠ i by omega, show o + 4 ≠ i by omega]
  · rw [List.getElem?_append_right (by simp; omega)]
    have e0 : (cur.toList.take o).length = o := by simp; omega
    rw [e0]
    by_cases h2 : i < o + 5
    · rw [List.getElem?_append_left (by simp; omega)]
      have : i = o ∨ i = o + 1 ∨ i = o + 2 ∨ i = o + 3 ∨ i = o + 4 := by omega
      rcases this with rfl | rfl | rfl | rfl | rfl
      · simp; omega
      · simp [show o + 1 - o = 1 by omega]; omega
      · simp [show o + 2 - o = 2 by omega]; omega
      · simp [show o + 3 - o = 3 by omega]; omega
      · simp [show o + 4 - o = 4 by omega]; omega
    · rw [List.getElem?_append_right (by simp; omega)]
      simp [show o ≠ i by omega, show o + 1 ≠ i by omega, show o + 2 ≠ i by omega, show o + 3 ≠ i by omega, show o + 4 ≠ i by omega]
      congr 1
      omega

def World.setSt (w : World) (sb i : Nat) (s : St) : World :=
  ((((w.setCell ⟨sb, i * 5, none⟩ (.int .i64 s.t)).setCell ⟨sb, i * 5 + 1, none⟩ (.int .i64 s.f.a)).setCell ⟨sb, i * 5 + 2, none⟩ (.int .i64 s.f.b)).setCell ⟨sb, i * 5 + 3, none⟩ (.int .i64 s.f.c)).setCell ⟨sb, i * 5 + 4, none⟩ (.int .i64 s.f.d)

theorem Row.setSt {w : World} {sb cap : Nat} {l : List St} (h : Row w sb cap l) (i : Nat) (s : St) (hi : i < l.length) : Row (World.setSt w sb i s) sb cap (l.set i s) := by
  obtain ⟨h1, h2, cur, hb, hs, ht⟩ := h
  refine ⟨by simpa using h1, h2, _, blk_set (blk_set (blk_set (blk_set (blk_set hb _ _) _ _) _ _) _ _) _ _, by simpa using hs, ?_⟩
  rw [cells_set5 cur (i * 5) _ _ _ _ _ (by omega), flat_set l i s hi, ← ht]
  simp only [List.length_set, St.cells]
  have e0 : l.length * 5 = i * 5 + (5 + (l.length * 5 - (i * 5 + 5))) := by omega
  rw [List.append_assoc, List.append_assoc, List.take_append, List.take_append]
  have z1 : (cur.toList.take (i * 5)).length = i * 5 := by simp; omega
  rw [z1]
  have z2 : l.length * 5 - i * 5 - 5 = l.length * 5 - (i * 5 + 5) := by omega
  simp only [List.length_cons, List.length_nil, Nat.zero_add, Nat.reduceAdd, z2]
  rw [List.take_of_length_le (by simp; omega), List.take_of_length_le (l := [_, _, _, _, _]) (by simp; omega), List.take_take, Nat.min_eq_left (by omega), List.drop_take]
end Go.Proofs.Ytpjajiambbobhaa
