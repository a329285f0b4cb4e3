/- What a read fleet is, and what its methods answer. -/
import Derived.Test.YteoihdkaoipocaaDoorRdf
import Derived.Test.YteoihdkaoipocaaDoorFpa
import Derived.Test.YteoihdkaoipocaaDoorFto
namespace Go.Proofs.YteoihdkaoipocaaDoor
open Go.RowKit Go.Maps Go.Shelf

structure NdvAll (v : Ndv) : Prop where
  ok : NdvOk v
  few : v.parts.length ≤ 8
  once : twiceL v.parts = false
structure FltOk (vs : List Ndv) : Prop where
  len : vs.length ≤ 16
  all : ∀ v, v ∈ vs → NdvAll v
  nodup : (vs.map Ndv.name).Nodup
theorem fltOk_nil : FltOk [] := ⟨by simp, fun v h => (by cases h), by simp⟩
theorem putE_zero {ns : List ByteArray} {m : Nat} {name : ByteArray} {parts : List ByteArray} (h : putE ns m name parts = 0) : name ∉ ns ∧ twiceL parts = false ∧ m < 16 ∧ parts.length ≤ 8 := by
  unfold putE at h
  split at h
  · cases h
  · next h1 =>
    split at h
    · cases h
    · next h2 =>
      split at h
      · cases h
      · next h3 => exact ⟨fun c => h1 (memB_iff.2 c), by simpa using h2, by omega, by omega⟩
theorem readTo_good (l : List (Int × ByteArray)) : ∀ xs, FltOk xs → FltOk (readTo xs l).1 := by
  induction l with
  | nil => intro xs h; exact h
  | cons x l ih =>
    intro xs h
    obtain ⟨i, b⟩ := x
    simp only [readTo]
    cases hn : nodeOf b with
    | none => exact h
    | some v =>
      simp only
      by_cases c : putE (xs.map Ndv.name) xs.length v.name v.parts = 0
      · rw [if_pos c]
        obtain ⟨c1, c2, c3, c4⟩ := putE_zero c
        refine ih _ ⟨by simp; omega, fun y hy => ?_, ?_⟩
        · rcases List.mem_append.1 hy with hy | hy
          · exact h.all y hy
          · have : y = v := by simpa using hy
            subst this
            exact ⟨nodeOf_ok hn, c4, c2⟩
        · rw [List.map_append, List.nodup_append]
          refine ⟨h.nodup, by simp, fun a ha b hb => ?_⟩
          have : b = v.name := by simpa using hb
          subst this
          exact fun e => c1 (by rw [← e]; exact ha)
      · rw [if_neg c]; exact h
theorem readOf_good (s : ByteArray) : FltOk (readOf s).1 := by
  unfold readOf
  split
  · exact fltOk_nil
  · exact readTo_good _ _ fltOk_nil
theorem capOk_right {v : V4} (h : v.right = true) : CapOk v := by
  simp only [V4.right, okn, Bool.and_eq_true, decide_eq_true_eq] at h
  exact ⟨h.1.1.1.1, h.1.1.1.2, h.1.1.2.1, h.1.1.2.2, h.1.2.1, h.1.2.2, h.2.1, h.2.2⟩
/-- the place of a text in a row; -1: it isn't there -/
def idxN : List ByteArray → ByteArray → Nat → Int
  | [], _, _ => -1
  | n :: ns, s, k => if n = s then (k : Int) else idxN ns s (k + 1)
theorem idxN_no {ns : List ByteArray} {s : ByteArray} (h : s ∉ ns) (k : Nat) : idxN ns s k = -1 := by
  induction ns generalizing k with
  | nil => rfl
  | cons n ns ih =>
    simp only [idxN]
    rw [if_neg (fun e => h (by rw [e]; exact List.mem_cons_self ..)), ih (fun c => h (List.mem_cons_of_mem _ c))]
theorem idxN_at {ns : List ByteArray} {s : ByteArray} {i : Nat} (hn : ns.Nodup) (h : ns[i]? = some s) (k : Nat) : idxN ns s k = ((k + i : Nat) : Int) := by
  induction ns generalizing k i with
  | nil => simp at h
  | cons n ns ih =>
    simp only [idxN]
    cases i with
    | zero =>
      have : n = s := by simpa using h
      rw [if_pos this]; rfl
    | succ i =>
      have h' : ns[i]? = some s := by simpa using h
      have hne : n ≠ s := fun e => by
        have := (List.nodup_cons.1 hn).1
        exact this (by rw [e]; exact List.mem_of_getElem? h')
      rw [if_neg hne, ih (List.nodup_cons.1 hn).2 h', show k + 1 + i = k + (i + 1) by omega]
theorem nodup_last {ns : List ByteArray} {s : ByteArray} {i : Nat} (hn : ns.Nodup) (h : ns[i]? = some s) : ∀ j, i < j → ns[j]? ≠ some s := fun j hj e => by
  have h1 := (List.getElem?_eq_some_iff.1 h)
  have h2 := (List.getElem?_eq_some_iff.1 e)
  obtain ⟨a, ha⟩ := h1
  obtain ⟨b, hb⟩ := h2
  have := List.getElem_inj (h₀ := a) (h₁ := b) hn |>.1 (ha.trans hb.symm)
  omega
theorem len_flt {w : World} {fb mb base : Nat} {vs : List Ndv} (h : Flt w fb mb base vs) : Calls Tryd.prog 38 #[.pointer (some ⟨fb, 0, none⟩)] w fun e w' => e = .returned (.int .i64 (vs.length : Int)) ∧ w' = w := by
  obtain ⟨nv, xs, h1, rfl, h3⟩ := h.ex
  rw [List.length_map]
  exact len_any w fb mb base nv xs h1
theorem in_flt {w : World} {fb mb base : Nat} {vs : List Ndv} (h : Flt w fb mb base vs) (hok : FltOk vs) (p : ByteArray) : Calls Tryd.prog 58 #[.pointer (some ⟨fb, 0, none⟩), .string p] w (FinPost vs p w) := by
  obtain ⟨nv, xs, h1, rfl, h3⟩ := h.ex
  have := hok.len
  rw [List.length_map] at this
  exact fin_any w fb mb base nv xs p h1 (by omega)
theorem tot_flt {w : World} {fb mb base : Nat} {vs : List Ndv} (h : Flt w fb mb base vs) (hok : FltOk vs) (p : ByteArray) : Calls Tryd.prog 60 #[.pointer (some ⟨fb, 0, none⟩), .string p] w (TotPost vs p w) := by
  obtain ⟨nv, xs, h1, rfl, h3⟩ := h.ex
  have := hok.len
  rw [List.length_map] at this
  exact tot_any w fb mb base nv xs p h1 (by omega) fun x hx => capOk_right (hok.all x.pl (List.mem_map_of_mem hx)).ok.cap
theorem parts_flt {w : World} {fb mb base : Nat} {vs : List Ndv} (h : Flt w fb mb base vs) (hok : FltOk vs) : Calls Tryd.prog 59 #[.pointer (some ⟨fb, 0, none⟩)] w (FpaPost vs w) := by
  obtain ⟨nv, xs, h1, rfl, h3⟩ := h.ex
  have := hok.len
  rw [List.length_map] at this
  exact fpa_any w fb mb base nv xs h1 (by omega) fun x hx => ⟨(hok.all x.pl (List.mem_map_of_mem hx)).ok.one, (hok.all x.pl (List.mem_map_of_mem hx)).few⟩
theorem index_flt {w : World} {fb mb base : Nat} {vs : List Ndv} (h : Flt w fb mb base vs) (hok : FltOk vs) (s : ByteArray) (hs : s.size ≤ maxLen) : Calls Tryd.prog 57 #[.pointer (some ⟨fb, 0, none⟩), .string s] w fun e w' => e = .returned (.int .i64 (idxN (vs.map Ndv.name) s 0)) ∧ w' = w := by
  obtain ⟨nv, xs, h1, rfl, h3⟩ := h.ex
  have hns : (xs.map Nde.pl).map Ndv.name = xs.map Nde.name := by rw [List.map_map]; rfl
  have hnd := hok.nodup
  rw [hns] at hnd ⊢
  refine (index_any w fb mb base nv xs s h1 hs).mono ?_
  rintro e w' ⟨⟨i, rfl, hi⟩, rfl⟩
  refine ⟨?_, rfl⟩
  rcases hi with ⟨rfl, hi⟩ | ⟨hm, hi⟩
  · rw [idxN_no hi]
  · obtain ⟨j, hj, e⟩ := List.mem_iff_getElem.1 hm
    have hj' : (xs.map Nde.name)[j]? = some s := by rw [List.getElem?_eq_getElem hj, e]
    rw [mapD_at _ s j hj' (nodup_last hnd hj')] at hi
    rw [idxN_at hnd hj', Nat.zero_add]
    cases hi
    rfl
end Go.Proofs.YteoihdkaoipocaaDoor
