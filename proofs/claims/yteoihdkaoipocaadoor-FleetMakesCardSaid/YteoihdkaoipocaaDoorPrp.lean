/- The parts of a fleet, plain: sorted and each once, whichever way. -/
import Derived.Test.YteoihdkaoipocaaDoorFpa
namespace Go.Proofs.YteoihdkaoipocaaDoor
open Go.RowKit

abbrev Tx := List UInt8
theorem tx_irr (a : Tx) : ¬ a < a := List.lt_irrefl a
theorem tx_trans {a b c : Tx} (h1 : a < b) (h2 : b < c) : a < c := List.lt_trans h1 h2
theorem tx_not {a b : Tx} (h : ¬ a < b) (hne : a ≠ b) : b < a := by
  by_cases h2 : b < a
  · exact h2
  · exact absurd (List.le_antisymm (List.not_lt.1 h2) (List.not_lt.1 h)) hne
theorem tx_le {a b : Tx} (h : a ≤ b) (hne : a ≠ b) : a < b := tx_not (List.not_lt.2 h) hne.symm
theorem tx_le_trans {a b c : Tx} (h1 : a ≤ b) (h2 : b ≤ c) : a ≤ c := List.le_trans h1 h2
theorem strict_ext : ∀ (l m : List Tx), l.Pairwise (· < ·) → m.Pairwise (· < ·) → (∀ x, x ∈ l ↔ x ∈ m) → l = m
  | [], [], _, _, _ => rfl
  | [], b :: m, _, _, h => absurd ((h b).2 (by simp)) (by simp)
  | a :: l, [], _, _, h => absurd ((h a).1 (by simp)) (by simp)
  | a :: l, b :: m, h1, h2, h => by
    obtain ⟨p1, p2⟩ := List.pairwise_cons.1 h1
    obtain ⟨q1, q2⟩ := List.pairwise_cons.1 h2
    have e : a = b := by
      rcases List.mem_cons.1 ((h a).1 (by simp)) with e | e
      · exact e
      · rcases List.mem_cons.1 ((h b).2 (by simp)) with e' | e'
        · exact e'.symm
        · exact absurd (tx_trans (q1 a e) (p1 b e')) (tx_irr b)
    subst e
    rw [strict_ext l m p2 q2 fun x => ⟨fun hx => ?_, fun hx => ?_⟩]
    · rcases List.mem_cons.1 ((h x).1 (List.mem_cons_of_mem _ hx)) with e | e
      · subst e; exact absurd (p1 x hx) (tx_irr x)
      · exact e
    · rcases List.mem_cons.1 ((h x).2 (List.mem_cons_of_mem _ hx)) with e | e
      · subst e; exact absurd (q1 x hx) (tx_irr x)
      · exact e
theorem comp_upTo (d : Array Tx) (hs : ∀ i j, i < j → j < d.size → d[i]! ≤ d[j]!) : ∀ m, m ≤ d.size → (Lib.compactUpTo d m).Pairwise (· < ·) ∧ ∀ x, x ∈ Lib.compactUpTo d m ↔ ∃ j, j < m ∧ d[j]! = x := by
  intro m
  induction m with
  | zero => intro _; simp [Lib.compactUpTo]
  | succ m ih =>
    intro hm
    obtain ⟨h1, h2⟩ := ih (by omega)
    rw [Lib.compactUpTo_succ]
    by_cases h0 : m = 0
    · subst h0
      have hk : Lib.keeps d 0 = true := Lib.keeps_lt_one d 0 (by omega)
      rw [hk]
      refine ⟨by simp [Lib.compactUpTo], fun x => ?_⟩
      simp [Lib.compactUpTo]
      exact ⟨fun h => h.symm, fun h => h.symm⟩
    · by_cases he : d[m]! = d[m - 1]!
      · rw [Lib.keeps_neg (by omega) he]
        simp only [Bool.false_eq_true, if_false, List.append_nil]
        refine ⟨h1, fun x => ?_⟩
        rw [h2]
        constructor
        · rintro ⟨j, hj, e⟩; exact ⟨j, by omega, e⟩
        · rintro ⟨j, hj, e⟩
          by_cases c : j = m
          · subst c; exact ⟨j - 1, by omega, by rw [← he]; exact e⟩
          · exact ⟨j, by omega, e⟩
      · rw [Lib.keeps_pos he]
        simp only [if_true]
        refine ⟨?_, fun x => ?_⟩
        · rw [List.pairwise_append]
          refine ⟨h1, by simp, fun a ha b hb => ?_⟩
          have hb' : b = d[m]! := by simpa using hb
          subst hb'
          obtain ⟨j, hj, rfl⟩ := (h2 a).1 ha
          have hl : d[m - 1]! < d[m]! := tx_le (hs (m - 1) m (by omega) (by omega)) (fun e => he e.symm)
          by_cases c : j = m - 1
          · rw [c]; exact hl
          · have := hs j (m - 1) (by omega) (by omega)
            by_cases c2 : d[j]! = d[m - 1]!
            · rw [c2]; exact hl
            · exact tx_trans (tx_le this c2) hl
        · rw [List.mem_append, h2]
          constructor
          · rintro (⟨j, hj, e⟩ | h)
            · exact ⟨j, by omega, e⟩
            · exact ⟨m, by omega, by simpa using (List.mem_singleton.1 h).symm⟩
          · rintro ⟨j, hj, e⟩
            by_cases c : j = m
            · subst c; exact .inr (by simp [e])
            · exact .inl ⟨j, by omega, e⟩
theorem partsOf_strict (vs : List Ndv) : (partsOf vs).Pairwise (· < ·) ∧ ∀ x, x ∈ partsOf vs ↔ x ∈ (rawParts vs).map (·.data.toList) := by
  unfold partsOf
  obtain ⟨Z, hZ⟩ : ∃ Z, Z = (rawParts vs).map (·.data.toList) := ⟨_, rfl⟩
  rw [← hZ]
  have hp : (Z.mergeSort fun x y => decide (x ≤ y)).Pairwise fun x y => decide (x ≤ y) = true :=
    List.pairwise_mergeSort (le := fun x y => decide (x ≤ y)) (fun a b c h1 h2 => decide_eq_true (tx_le_trans (of_decide_eq_true h1) (of_decide_eq_true h2))) (fun a b => by
      rcases List.le_total a b with h | h
      · rw [decide_eq_true h]; rfl
      · rw [decide_eq_true (p := b ≤ a) h]; simp) Z
  have hmem : ∀ x, x ∈ (Z.mergeSort fun x y => decide (x ≤ y)) ↔ x ∈ Z := fun x => List.mem_mergeSort
  obtain ⟨Y, hY⟩ : ∃ Y, Y = Z.mergeSort fun x y => decide (x ≤ y) := ⟨_, rfl⟩
  rw [← hY] at hp hmem ⊢
  have hs : ∀ i j, i < j → j < Y.toArray.size → Y.toArray[i]! ≤ Y.toArray[j]! := fun i j hij hj => by
    have hj' : j < Y.length := by simpa using hj
    have := List.pairwise_iff_getElem.1 hp i j (by omega) hj' hij
    rw [getElem!_pos Y.toArray i (by simp; omega), getElem!_pos Y.toArray j hj]
    simpa using this
  have h := comp_upTo Y.toArray hs Y.length (by simp)
  refine ⟨h.1, fun x => ?_⟩
  show x ∈ Lib.compactUpTo Y.toArray Y.length ↔ _
  rw [h.2, ← hmem]
  constructor
  · rintro ⟨j, hj, e⟩
    rw [getElem!_pos Y.toArray j (by simpa using hj)] at e
    rw [← e]
    simp
  · intro hx
    obtain ⟨j, hj, e⟩ := List.mem_iff_getElem.1 hx
    exact ⟨j, hj, by rw [getElem!_pos Y.toArray j (by simpa using hj)]; simpa using e⟩

/-- the document's way: each is put at its place -/
def ltB (a b : ByteArray) : Bool := decide (a.data.toList < b.data.toList)
def cntB (out : List ByteArray) (p : ByteArray) : Nat := (out.takeWhile fun x => ltB x p).length
def insB (out : List ByteArray) (p : ByteArray) : List ByteArray := if memB out p = true then out else out.take (cntB out p) ++ (p :: out.drop (cntB out p))
def StrictB (out : List ByteArray) : Prop := (out.map (·.data.toList)).Pairwise (· < ·)
theorem cntB_le (out : List ByteArray) (p : ByteArray) : cntB out p ≤ out.length := (List.takeWhile_prefix _).length_le
theorem cntB_lt {out : List ByteArray} {p : ByteArray} {j : Nat} {x : ByteArray} (hj : j < cntB out p) (hx : out[j]? = some x) : ltB x p = true := by
  induction out generalizing j with
  | nil => simp at hx
  | cons y out ih =>
    unfold cntB at hj
    rw [List.takeWhile_cons] at hj
    by_cases c : ltB y p = true
    · rw [if_pos c] at hj
      cases j with
      | zero => have : y = x := by simpa using hx
                rw [← this]; exact c
      | succ j => exact ih (j := j) (by simpa [cntB] using hj) (by simpa using hx)
    · rw [if_neg c] at hj; simp at hj
theorem cntB_at {out : List ByteArray} {p x : ByteArray} (hx : out[cntB out p]? = some x) : ltB x p = false := by
  induction out with
  | nil => simp at hx
  | cons y out ih =>
    unfold cntB at hx
    rw [List.takeWhile_cons] at hx
    by_cases c : ltB y p = true
    · rw [if_pos c] at hx
      exact ih (by simpa [cntB] using hx)
    · rw [if_neg c] at hx
      have : y = x := by simpa using hx
      rw [← this]; simpa using c
theorem cntB_eq {out : List ByteArray} {p : ByteArray} {n : Nat} (hn : n ≤ out.length) (h1 : ∀ j x, j < n → out[j]? = some x → ltB x p = true) (h2 : ∀ x, out[n]? = some x → ltB x p = false) : cntB out p = n := by
  rcases Nat.lt_trichotomy (cntB out p) n with h | h | h
  · obtain ⟨x, hx⟩ : ∃ x, out[cntB out p]? = some x := ⟨_, List.getElem?_eq_getElem (by omega)⟩
    have := h1 _ x h hx
    rw [cntB_at hx] at this
    cases this
  · exact h
  · obtain ⟨x, hx⟩ : ∃ x, out[n]? = some x := ⟨_, List.getElem?_eq_getElem (by have := cntB_le out p; omega)⟩
    have := h2 x hx
    rw [cntB_lt h hx] at this
    cases this
theorem insB_mem (out : List ByteArray) (p x : ByteArray) : x ∈ insB out p ↔ x ∈ out ∨ x = p := by
  unfold insB
  split
  · next h =>
    have := memB_iff.1 h
    exact ⟨fun h => .inl h, fun h => by rcases h with h | h; exact h; rw [h]; exact this⟩
  · rw [List.mem_append, List.mem_cons]
    have e := List.take_append_drop (cntB out p) out
    constructor
    · rintro (h | rfl | h)
      · exact .inl (List.mem_of_mem_take h)
      · exact .inr rfl
      · exact .inl (List.mem_of_mem_drop h)
    · rintro (h | rfl)
      · rw [← e] at h
        rcases List.mem_append.1 h with h | h
        · exact .inl h
        · exact .inr (.inr h)
      · exact .inr (.inl rfl)
theorem insB_strict {out : List ByteArray} (h : StrictB out) (p : ByteArray) : StrictB (insB out p) := by
  unfold insB
  split
  · exact h
  · next hm =>
    have hne : ∀ x, x ∈ out → x.data.toList ≠ p.data.toList := fun x hx e => hm (memB_iff.2 (by rw [← toL_inj e]; exact hx))
    unfold StrictB at h ⊢
    have e := List.take_append_drop (cntB out p) out
    rw [← e, List.map_append, List.pairwise_append] at h
    obtain ⟨h1, h2, h3⟩ := h
    rw [List.map_append, List.map_cons, List.pairwise_append]
    have hlo : ∀ a, a ∈ (out.take (cntB out p)).map (·.data.toList) → a < p.data.toList := fun a ha => by
      obtain ⟨x, hx, rfl⟩ := List.mem_map.1 ha
      obtain ⟨j, hj, e⟩ := List.mem_iff_getElem.1 hx
      rw [List.length_take] at hj
      have hj2 : out[j]? = some x := by rw [← e, List.getElem_take, List.getElem?_eq_getElem (by omega)]
      exact of_decide_eq_true (cntB_lt (p := p) (j := j) (by omega) hj2)
    have hhi : ∀ b, b ∈ (out.drop (cntB out p)).map (·.data.toList) → p.data.toList < b := fun b hb => by
      cases hd : out.drop (cntB out p) with
      | nil => rw [hd] at hb; simp at hb
      | cons y r =>
        have hy : out[cntB out p]? = some y := by
          have : (out.drop (cntB out p))[0]? = some y := by rw [hd]; rfl
          rwa [List.getElem?_drop, Nat.add_zero] at this
        have hy2 : p.data.toList < y.data.toList := tx_not (of_decide_eq_false (cntB_at hy)) (hne y (List.mem_of_getElem? hy))
        rw [hd] at hb h2
        rw [List.map_cons] at hb h2
        rcases List.mem_cons.1 hb with rfl | hb
        · exact hy2
        · exact tx_trans hy2 ((List.pairwise_cons.1 h2).1 b hb)
    refine ⟨h1, List.pairwise_cons.2 ⟨hhi, h2⟩, fun a ha b hb => ?_⟩
    rcases List.mem_cons.1 hb with rfl | hb
    · exact hlo a ha
    · exact tx_trans (hlo a ha) (hhi b hb)
def refParts (l : List ByteArray) : List ByteArray := l.foldl insB []
theorem refParts_snoc (l : List ByteArray) (p : ByteArray) : refParts (l ++ [p]) = insB (refParts l) p := by unfold refParts; rw [List.foldl_append]; rfl
theorem refParts_ok (l : List ByteArray) : StrictB (refParts l) ∧ ∀ x, x ∈ refParts l ↔ x ∈ l := by
  induction l using rev_ind with
  | h0 => exact ⟨List.Pairwise.nil, fun x => Iff.rfl⟩
  | h1 l x ih =>
    rw [refParts_snoc]
    refine ⟨insB_strict ih.1 x, fun y => ?_⟩
    rw [insB_mem, ih.2]
    simp
theorem refParts_eq (vs : List Ndv) : refParts (rawParts vs) = (partsOf vs).map ofL := by
  obtain ⟨h1, h2⟩ := refParts_ok (rawParts vs)
  obtain ⟨h3, h4⟩ := partsOf_strict vs
  have e := strict_ext _ _ h1 h3 fun x => by
    rw [h4]
    simp only [List.mem_map]
    constructor
    · rintro ⟨y, hy, rfl⟩; exact ⟨y, (h2 y).1 hy, rfl⟩
    · rintro ⟨y, hy, rfl⟩; exact ⟨y, (h2 y).2 hy, rfl⟩
  rw [← e, List.map_map]
  have : (ofL ∘ fun (x : ByteArray) => x.data.toList) = id := by
    funext x
    show ofL x.data.toList = x
    exact toL_inj (by rw [ofL_toL])
  rw [this, List.map_id]
end Go.Proofs.YteoihdkaoipocaaDoor
