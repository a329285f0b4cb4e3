/- The pieces of a text between signs: what the library's Cut and Split tell, by one plain function. Plain theorems: no condition. -/
import Derived.Test.YteoihdkaoipocaaDoorNum
import Derived.Test.YteoihdkaoipocaaDoorShelf
namespace Go.Proofs.YteoihdkaoipocaaDoor
open Go.RowKit

def ofL (l : List UInt8) : ByteArray := ⟨l.toArray⟩
theorem ofL_toL (l : List UInt8) : (ofL l).data.toList = l := by simp [ofL]
theorem ofL_of (s : ByteArray) : ofL s.data.toList = s := rfl
theorem ofL_inj {a b : List UInt8} (h : ofL a = ofL b) : a = b := by rw [← ofL_toL a, h, ofL_toL]
theorem ofL_size (l : List UInt8) : (ofL l).size = l.length := rfl
theorem toL_inj {a b : ByteArray} (h : a.data.toList = b.data.toList) : a = b := by rw [← ofL_of a, h, ofL_of]
theorem toL_len (s : ByteArray) : s.data.toList.length = s.size := rfl

/-- a text's pieces between signs -/
def cutAll (x : UInt8) : List UInt8 → List (List UInt8)
  | [] => [[]]
  | b :: l => if b = x then [] :: cutAll x l else (b :: (cutAll x l).headD []) :: (cutAll x l).tail
theorem cutAll_ne (x : UInt8) (l : List UInt8) : cutAll x l ≠ [] := by
  cases l with
  | nil => simp [cutAll]
  | cons b l => unfold cutAll; split <;> simp
theorem cutAll_no {x : UInt8} {l : List UInt8} (h : x ∉ l) : cutAll x l = [l] := by
  induction l with
  | nil => rfl
  | cons b l ih =>
    have h1 : ¬ b = x := fun e => h (by rw [e]; exact List.mem_cons_self ..)
    have h2 := ih (fun e => h (List.mem_cons_of_mem _ e))
    unfold cutAll
    rw [if_neg h1, h2]; rfl
theorem cutAll_hit {x : UInt8} {a r : List UInt8} (h : x ∉ a) : cutAll x (a ++ x :: r) = a :: cutAll x r := by
  induction a with
  | nil => show cutAll x (x :: r) = _; rw [cutAll, if_pos rfl]
  | cons b a ih =>
    have h1 : ¬ b = x := fun e => h (by rw [e]; exact List.mem_cons_self ..)
    have h2 := ih (fun e => h (List.mem_cons_of_mem _ e))
    show cutAll x (b :: (a ++ x :: r)) = _
    rw [cutAll, if_neg h1, h2]; rfl
theorem first_of (x : UInt8) (l : List UInt8) : x ∉ l ∨ ∃ a r, l = a ++ x :: r ∧ x ∉ a := by
  induction l with
  | nil => exact .inl (by simp)
  | cons b l ih =>
    by_cases e : b = x
    · exact .inr ⟨[], l, by rw [e]; rfl, by simp⟩
    · rcases ih with h | ⟨a, r, h1, h2⟩
      · exact .inl (by simp [h]; exact fun c => e c.symm)
      · exact .inr ⟨b :: a, r, by rw [h1]; rfl, by simp [h2]; exact fun c => e c.symm⟩

theorem index_no {x : UInt8} {l : List UInt8} (h : x ∉ l) : Lib.index l [x] = -1 := by
  induction l with
  | nil => rfl
  | cons b l ih =>
    have h1 : ¬ x = b := fun e => h (by rw [e]; exact List.mem_cons_self ..)
    have h2 := ih (fun e => h (List.mem_cons_of_mem _ e))
    unfold Lib.index
    have e : [x].isPrefixOf (b :: l) = false := by simp [List.isPrefixOf, h1]
    rw [e, h2]; rfl
theorem index_hit {x : UInt8} {a r : List UInt8} (h : x ∉ a) : Lib.index (a ++ x :: r) [x] = a.length := by
  induction a with
  | nil =>
    show Lib.index (x :: r) [x] = _
    unfold Lib.index
    have e : [x].isPrefixOf (x :: r) = true := by simp [List.isPrefixOf]
    rw [e]; rfl
  | cons b a ih =>
    have h1 : ¬ x = b := fun e => h (by rw [e]; exact List.mem_cons_self ..)
    have h2 := ih (fun e => h (List.mem_cons_of_mem _ e))
    show Lib.index (b :: (a ++ x :: r)) [x] = _
    unfold Lib.index
    have e : [x].isPrefixOf (b :: (a ++ x :: r)) = false := by simp [List.isPrefixOf, h1]
    rw [e, h2]
    have e2 : ((a.length : Int) == -1) = false := by simp only [beq_eq_false_iff_ne]; omega
    simp [e2]
theorem cut_no {x : UInt8} {l : List UInt8} (h : x ∉ l) : Lib.cut l [x] = (l, [], false) := by
  unfold Lib.cut; rw [index_no h]; rfl
theorem cut_hit {x : UInt8} {a r : List UInt8} (h : x ∉ a) : Lib.cut (a ++ x :: r) [x] = (a, r, true) := by
  unfold Lib.cut
  rw [index_hit h, if_pos (by omega)]
  simp

theorem splitB_cutAll (x : UInt8) : ∀ (n : Nat) (s : ByteArray), s.size ≤ n → Lib.splitB (ofL [x]) 0 (Lib.countB s (ofL [x])) s = (cutAll x s.data.toList).map ofL ∧ Lib.countB s (ofL [x]) + 1 = (cutAll x s.data.toList).length := by
  intro n
  induction n with
  | zero =>
    intro s hs
    have h0 : s.data.toList = [] := List.length_eq_zero_iff.1 (by rw [toL_len]; omega)
    have hi : Lib.indexB s (ofL [x]) = -1 := by show Lib.index s.data.toList [x] = -1; exact index_no (by rw [h0]; simp)
    rw [Lib.countB_miss s _ hi, Lib.splitB_zero, h0]
    exact ⟨by rw [← ofL_of s, h0]; rfl, rfl⟩
  | succ n ih =>
    intro s hs
    rcases first_of x s.data.toList with h | ⟨a, r, h1, h2⟩
    · have hi : Lib.indexB s (ofL [x]) = -1 := by show Lib.index s.data.toList [x] = -1; exact index_no h
      rw [Lib.countB_miss s _ hi, Lib.splitB_zero, cutAll_no h]
      exact ⟨rfl, rfl⟩
    · have hi : Lib.indexB s (ofL [x]) = (a.length : Nat) := by show Lib.index s.data.toList [x] = _; rw [h1]; exact index_hit h2
      have hr : s.extract (a.length + (ofL [x]).size) s.size = ofL r := toL_inj (by
        rw [Lib.extract_to_end, ofL_toL, h1, ofL_size]
        show List.drop (a.length + 1) (a ++ x :: r) = r
        rw [List.drop_append]; simp)
      have ha : s.extract 0 (a.length + 0) = ofL a := toL_inj (by rw [Lib.extract_from_zero, ofL_toL, h1]; simp)
      have hl : (ofL r).size ≤ n := by
        have : s.data.toList.length = a.length + (r.length + 1) := by rw [h1]; simp
        rw [toL_len] at this
        rw [ofL_size]; omega
      obtain ⟨i1, i2⟩ := ih (ofL r) hl
      rw [ofL_toL] at i1 i2
      have hc := Lib.countB_hit s (ofL [x]) a.length (Nat.le_refl _) hi
      rw [hr] at hc
      rw [hc, Nat.add_comm 1, Lib.splitB_hit _ _ _ _ _ hi, hr, ha, i1, h1, cutAll_hit h2]
      exact ⟨rfl, by simp [← i2]⟩

/-- the library's variable that the search reads holds a number -/
def Mx (w : World) : Prop := ∃ m, w.cell? ⟨0, 0, none⟩ = some (.int .i64 m)
theorem Mx.pos {w : World} (h : Mx w) : 0 < w.heap.size := by
  obtain ⟨m, h⟩ := h
  simp only [World.cell?] at h
  cases hx : w.heap[0]? with
  | none => simp [hx] at h
  | some o => exact (Array.getElem?_eq_some_iff.1 hx).1
theorem Mx.below {w w' : World} {B : Nat} (h : Mx w) (hb : Below B w w') (hB : 0 < B) : Mx w' := by
  obtain ⟨m, h⟩ := h
  exact ⟨m, (below_cell hb hB).trans h⟩
theorem Mx.low {w w' : World} (h : Mx w) (hb : Below w.heap.size w w') : Mx w' := h.below hb h.pos
theorem Mx.of_shape {w : World} (h : w.ShapedOpen Tryd.prog) : Mx w := Tryd.laysM145.s1_3 w h
theorem cut_call (s : ByteArray) (x : UInt8) (w : World) (h : Mx w) (hs : s.size < 4294967281) :
    Calls Tryd.prog 63 #[.string s, .string (ofL [x])] w fun e w' => (∃ a r b, e = .returned (.tuple #[.string (ofL a), .string (ofL r), .bool b]) ∧ ((b = false ∧ a = s.data.toList ∧ r = [] ∧ x ∉ a) ∨ (b = true ∧ s.data.toList = a ++ x :: r ∧ x ∉ a))) ∧ ∃ n, w' = w.drewN n := by
  obtain ⟨m, hm⟩ := h
  refine (Tryd.strings_Cut s (ofL [x]) m w hs hm).mono fun e w' ⟨he, hn⟩ => ?_
  refine ⟨?_, hn⟩
  rw [ofL_toL] at he
  rcases first_of x s.data.toList with hc | ⟨a, r, h1, h2⟩
  · rw [cut_no hc] at he
    exact ⟨s.data.toList, [], false, he, .inl ⟨rfl, rfl, rfl, hc⟩⟩
  · rw [h1, cut_hit h2] at he
    exact ⟨a, r, true, he, .inr ⟨rfl, h1, h2⟩⟩
theorem split_call (s : ByteArray) (x : UInt8) (w : World) (h : Mx w) (hs : s.size < 4294967281) :
    Calls Tryd.prog 62 #[.string s, .string (ofL [x])] w fun e w' => e = .returned (.slice (some ⟨w.heap.size, 0, none⟩) (cutAll x s.data.toList).length (cutAll x s.data.toList).length) ∧ w' = w.alloc (.cells (((cutAll x s.data.toList).map ofL).map Value.string).toArray 9) := by
  obtain ⟨m, hm⟩ := h
  refine (Tryd.strings_Split s (ofL [x]) m w hs hm (Nat.le_refl _)).mono fun e w' ⟨he, hn⟩ => ?_
  obtain ⟨i1, i2⟩ := splitB_cutAll x s.size s (Nat.le_refl _)
  rw [i2] at he
  rw [i1] at hn
  exact ⟨he, hn⟩
end Go.Proofs.YteoihdkaoipocaaDoor
