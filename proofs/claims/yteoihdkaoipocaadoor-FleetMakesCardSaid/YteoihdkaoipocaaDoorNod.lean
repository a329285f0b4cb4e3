/- fleet.node: the node of a line. -/
import Derived.Test.YteoihdkaoipocaaDoorRct
import Derived.StillTailTactics
namespace Go.Proofs.YteoihdkaoipocaaDoor
open Go.RowKit

structure Nde where
  name : ByteArray
  cap : V4
  po : Option Addr
  pn : Nat
  pc : Nat
  parts : List ByteArray
abbrev Nde.cells (x : Nde) : Array Value := #[.string x.name, .int .i64 x.cap.a, .int .i64 x.cap.b, .int .i64 x.cap.c, .int .i64 x.cap.d, .slice x.po x.pn x.pc]
abbrev Nde.val (x : Nde) : Value := .agg #[.string x.name, .int .i64 x.cap.a, .int .i64 x.cap.b, .int .i64 x.cap.c, .int .i64 x.cap.d, .slice x.po x.pn x.pc]
def Nde.zero : Nde := ⟨ByteArray.empty, V4.zero, none, 0, 0, []⟩
structure Nde.ok (w : World) (x : Nde) : Prop where
  parts : StrsAt w x.po x.pn x.parts
  ple : x.pn ≤ x.pc
theorem Nde.ok.low {w w' : World} {x : Nde} (h : x.ok w) (hb : Below w.heap.size w w') : x.ok w' := ⟨h.parts.low hb, h.ple⟩
theorem strs_none (w : World) : StrsAt w none 0 [] := ⟨rfl, by omega, fun i x h => by simp at h⟩
theorem Nde.zero_ok (w : World) : Nde.zero.ok w := ⟨strs_none w, Nat.le_refl _⟩
/-- a node as it is told -/
structure Ndv where
  name : ByteArray
  cap : V4
  parts : List ByteArray
def Nde.pl (x : Nde) : Ndv := ⟨x.name, x.cap, x.parts⟩

def words (s : ByteArray) : List ByteArray := (cutAll 32 s.data.toList).map ofL
def wrd (s : ByteArray) (k : Nat) : ByteArray := (words s).getD k ByteArray.empty
def nodeOk (s : ByteArray) : Prop := 3 ≤ (words s).length ∧ isName (wrd s 0) = true ∧ (∀ p, p ∈ (words s).drop 2 → isName p = true) ∧ (vecOf (wrd s 1)).2 = 0
instance (s : ByteArray) : Decidable (nodeOk s) := by unfold nodeOk; infer_instance
/-- the node of a line -/
def nodeOf (s : ByteArray) : Option Ndv := if nodeOk s then some ⟨wrd s 0, (vecOf (wrd s 1)).1, (words s).drop 2⟩ else none
theorem nodeOf_no {s : ByteArray} (h : ¬ nodeOk s) : nodeOf s = none := if_neg h
theorem nodeOf_yes {s : ByteArray} (h : nodeOk s) : nodeOf s = some ⟨wrd s 0, (vecOf (wrd s 1)).1, (words s).drop 2⟩ := if_pos h

theorem cutAll_le {x : UInt8} : ∀ {l p : List UInt8}, p ∈ cutAll x l → p.length ≤ l.length := by
  have key : ∀ (n : Nat) (l p : List UInt8), l.length ≤ n → p ∈ cutAll x l → p.length ≤ l.length := by
    intro n
    induction n with
    | zero =>
      intro l p h hp
      have : l = [] := List.length_eq_zero_iff.1 (by omega)
      subst this
      have : p = [] := by simpa [cutAll] using hp
      subst this; simp
    | succ n ih =>
      intro l p h hp
      rcases first_of x l with hc | ⟨a, r, rfl, h2⟩
      · rw [cutAll_no hc] at hp
        have : p = l := by simpa using hp
        rw [this]; exact Nat.le_refl _
      · rw [cutAll_hit h2] at hp
        simp at h
        rcases List.mem_cons.1 hp with rfl | hp
        · simp
        · have := ih r p (by omega) hp
          simp; omega
  exact fun {l p} hp => key l.length l p (Nat.le_refl _) hp
theorem cutAll_many {x : UInt8} (l : List UInt8) : (cutAll x l).length ≤ l.length + 1 := by
  induction l with
  | nil => simp [cutAll]
  | cons b l ih =>
    have := cutAll_pos x l
    unfold cutAll
    split
    · simp; omega
    · simp; omega
theorem words_le {s p : ByteArray} (h : p ∈ words s) : p.size ≤ s.size := by
  obtain ⟨l, hl, rfl⟩ := List.mem_map.1 h
  rw [ofL_size]; exact cutAll_le hl
theorem words_many (s : ByteArray) : (words s).length ≤ s.size + 1 := by
  unfold words; rw [List.length_map]; exact cutAll_many _
theorem wrd_at {s : ByteArray} {k : Nat} (h : k < (words s).length) : (words s)[k]? = some (wrd s k) := by
  unfold wrd; simp [List.getD, List.getElem?_eq_getElem h]
theorem wrd_le {s : ByteArray} {k : Nat} (h : k < (words s).length) : (wrd s k).size ≤ s.size := words_le (List.mem_of_getElem? (wrd_at h))

/-- what a line's node is -/
def NodePost (s : ByteArray) (w : World) (e : Ending) (w' : World) : Prop :=
  ∃ (x : Nde) (r : Int), e = .returned (.tuple #[x.val, .int .i64 r]) ∧ x.ok w' ∧ Below w.heap.size w w' ∧ (∀ b off, x.po = some ⟨b, off, none⟩ → w.heap.size ≤ b ∧ ∃ c, w'.heap[b]? = some (.cells c 9 (0, 0))) ∧ ((nodeOf s = none ∧ r = 50 ∧ x = Nde.zero) ∨ (nodeOf s = some x.pl ∧ r = 0))

/-- what stands behind the splitting -/
structure NdW (w : World) (s : ByteArray) (wr : World) : Prop where
  low : Below w.heap.size w wr
  mx : Mx wr
  res : wr.heap[w.heap.size]? = some (.cells Nde.zero.cells 48 (0, 0))
  row : wr.heap[w.heap.size + 1]? = some (.cells ((words s).map Value.string).toArray 9 (0, 0))
theorem NdW.below {w wr w' : World} {s : ByteArray} (h : NdW w s wr) (hb : Below wr.heap.size wr w') : NdW w s w' :=
  ⟨h.low.trans (hb.mono h.low.size), h.mx.low hb, blk_below hb h.res (blk_lt h.res), blk_below hb h.row (blk_lt h.row)⟩
theorem NdW.cell {w wr : World} {s : ByteArray} (h : NdW w s wr) {k : Nat} (hk : k < (words s).length) : wr.cell? ⟨w.heap.size + 1, k, none⟩ = some (.string (wrd s k)) := by
  rw [blk_cell h.row]; simp [wrd_at hk]

set_option maxRecDepth 100000 in
set_option maxHeartbeats 6400000 in
theorem node_any (s : ByteArray) (w : World) (hm : Mx w) (hs : s.size ≤ 4294967200) : Calls Tryd.prog 80 #[.string s] w (NodePost s w) := by
  obtain ⟨i9, hi9, hz9, hz91, hz92⟩ := info_parts info9
  obtain ⟨W0, hW0⟩ : ∃ W0, W0 = w.alloc (.cells Nde.zero.cells 48 (0, 0)) := ⟨_, rfl⟩
  have hb0 : Below w.heap.size w W0 := by rw [hW0]; exact (Below.refl _ _).alloc (Nat.le_refl _) _
  have hr0 : W0.heap[w.heap.size]? = some (.cells Nde.zero.cells 48 (0, 0)) := by rw [hW0]; exact blk_new _ _
  have hz0 : W0.heap.size = w.heap.size + 1 := by rw [hW0]; simp
  have hsp := split_call s 32 W0 (hm.low hb0) (by omega)
  rw [hW0] at hsp
  obtain ⟨L, hL⟩ : ∃ L, L = (words s).length := ⟨_, rfl⟩
  have hL' : (cutAll 32 s.data.toList).length = L := by rw [hL]; unfold words; rw [List.length_map]
  rw [hL'] at hsp
  have hLm := words_many s
  rw [← hL] at hLm
  replace hb0 := Lib.hid hb0; replace hr0 := Lib.hid hr0; replace hz0 := Lib.hid hz0; replace hsp := Lib.hid hsp; replace hL := Lib.hid hL; replace hm := Lib.hid hm; replace hL' := Lib.hid hL'
  have hW0' := Lib.hid hW0
  clear hW0
  go_enter Tryd.func80, Tryd.ntmps80
  go_wp2_with fail
  refine hsp.out.mono ?_
  rw [← hW0'.out]
  rintro e w1 ⟨rfl, hw1⟩
  have hV : NdW w s w1 := by
    have hb1 : Below W0.heap.size W0 w1 := by rw [hw1]; exact (Below.refl _ _).alloc (Nat.le_refl _) _
    refine ⟨hb0.out.trans (hb1.mono hb0.out.size), (hm.out.low hb0.out).low hb1, blk_below hb1 hr0.out (blk_lt hr0.out), ?_⟩
    rw [hw1, ← hz0.out]; exact blk_new _ _
  rw [hz0.out]
  replace hw1 := Lib.hid hw1; replace hV := Lib.hid hV
  by_cases h3 : L < 3
  · have d3 : decide ((L : Int) < 3) = true := decide_eq_true (by omega)
    have d3' : decide (L < 3) = true := decide_eq_true h3
    have hno : ¬ nodeOk s := fun h => by have := h.1; rw [← hL.out] at this; omega
    replace hno := Lib.hid hno
    have hz := nodeOf_no hno.out
    have cx := blk_cell (hV).out.res
    have fx := blk_free (hV).out.res
    have hlow := (hV).out.low
    replace hz := Lib.hid hz; replace hlow := Lib.hid hlow
    go_wp2
    refine bodyPost_ret (v := .tuple #[Nde.zero.val, .int .i64 50]) (by simp [results, Tryd.results80, go_sem, cx, Nde.zero, V4.zero]; rfl) rfl ⟨Nde.zero, 50, rfl, Nde.zero_ok _, ?_, fun b off e => (by cases e), .inl ⟨hz.out, rfl, rfl⟩⟩
    exact ((((((hlow.out).setCell (Nat.le_refl _) _).setCell (Nat.le_refl _) _).setCell (Nat.le_refl _) _).setCell (Nat.le_refl _) _).setCell (Nat.le_refl _) _).setCell (Nat.le_refl _) _
  have d3 : decide ((L : Int) < 3) = false := decide_eq_false (by omega)
  have d3' : decide (L < 3) = false := decide_eq_false h3
  have hL0 : 0 < L := by omega
  have hL0i : (0 : Int) < L := by omega
  have c0 := hV.out.cell (k := 0) (by rw [← hL.out]; omega)
  have hna := name_any (wrd s 0) w1 (by have := wrd_le (s := s) (k := 0) (by rw [← hL.out]; omega); have : maxLen = 9223372036854775807 := rfl; omega)
  obtain ⟨b0, hb0'⟩ : ∃ b0, b0 = isName (wrd s 0) := ⟨_, rfl⟩
  rw [← hb0'] at hna
  replace hna := Lib.hid hna; replace hb0' := Lib.hid hb0'
  go_wp2_with fail
  refine hna.out.mono ?_
  rintro e w2 ⟨rfl, hb2⟩
  have hV2 := hV.out.below hb2
  clear c0
  replace hb2 := Lib.hid hb2; replace hV2 := Lib.hid hV2
  cases b0 with
  | false =>
    have hno : ¬ nodeOk s := fun h => by have := h.2.1; rw [← hb0'.out] at this; cases this
    replace hno := Lib.hid hno
    have hz := nodeOf_no hno.out
    have cx := blk_cell (hV2).out.res
    have fx := blk_free (hV2).out.res
    have hlow := (hV2).out.low
    replace hz := Lib.hid hz; replace hlow := Lib.hid hlow
    go_wp2
    refine bodyPost_ret (v := .tuple #[Nde.zero.val, .int .i64 50]) (by simp [results, Tryd.results80, go_sem, cx, Nde.zero, V4.zero]; rfl) rfl ⟨Nde.zero, 50, rfl, Nde.zero_ok _, ?_, fun b off e => (by cases e), .inl ⟨hz.out, rfl, rfl⟩⟩
    exact ((((((hlow.out).setCell (Nat.le_refl _) _).setCell (Nat.le_refl _) _).setCell (Nat.le_refl _) _).setCell (Nat.le_refl _) _).setCell (Nat.le_refl _) _).setCell (Nat.le_refl _) _
  | true =>
  obtain ⟨ta, hsl, hta⟩ := slice_from (P := Tryd.prog) Tryd.underlying36 hi9 (w.heap.size + 1) L L 2 2 rfl (by omega)
  have hta' := hta (by omega)
  rw [hz91] at hta'
  subst hta'
  clear hta
  simp only [Nat.mul_one] at hsl
  have hV2' := hV2.out
  replace hV2' := Lib.hid hV2'
  go_wp2
  go_loopw [6, 25] (fun _ i wr => ∃ k : Nat, i = .int .i64 k ∧ k ≤ L - 2 ∧ Hid (∀ j, j < k → isName (wrd s (2 + j)) = true) ∧ Hid (NdW w s wr)) (fun _ i _ => (L - 2) - (intOf i).toNat)
  case atStart => exact ⟨0, rfl, Nat.zero_le _, fun j hj => absurd hj (Nat.not_lt_zero _), hV2'.out⟩
  case round =>
    obtain ⟨k, rfl, hk, hy, hV3⟩ := hrel
    by_cases hk1 : k < L - 2
    · have hc1 : (k : Int) < ((L - 2 : Nat) : Int) := by omega
      have hk0 : (0 : Int) ≤ (k : Int) := by omega
      have c2 := hV3.out.cell (k := 2 + k) (by rw [← hL.out]; omega)
      have hna := name_any (wrd s (2 + k)) wr (by have := wrd_le (s := s) (k := 2 + k) (by rw [← hL.out]; omega); have : maxLen = 9223372036854775807 := rfl; omega)
      obtain ⟨bk, hbk⟩ : ∃ bk, bk = isName (wrd s (2 + k)) := ⟨_, rfl⟩
      rw [← hbk] at hna
      replace hna := Lib.hid hna; replace hbk := Lib.hid hbk
      go_wp2_with fail
      refine hna.out.mono ?_
      rintro e w4 ⟨rfl, hb4⟩
      have hV4 := hV3.out.below hb4
      clear c2
      replace hb4 := Lib.hid hb4; replace hV4 := Lib.hid hV4
      cases bk with
      | false =>
        have hno : ¬ nodeOk s := fun h => by
          have := h.2.2.1 (wrd s (2 + k)) (List.mem_of_getElem? (by rw [List.getElem?_drop]; exact wrd_at (by rw [← hL.out]; omega)))
          rw [← hbk.out] at this; cases this
        replace hno := Lib.hid hno
        have hz := nodeOf_no hno.out
        have cx := blk_cell (hV4).out.res
        have fx := blk_free (hV4).out.res
        have hlow := (hV4).out.low
        replace hz := Lib.hid hz; replace hlow := Lib.hid hlow
        go_wp2
        refine bodyPost_ret (v := .tuple #[Nde.zero.val, .int .i64 50]) (by simp [results, Tryd.results80, go_sem, cx, Nde.zero, V4.zero]; rfl) rfl ⟨Nde.zero, 50, rfl, Nde.zero_ok _, ?_, fun b off e => (by cases e), .inl ⟨hz.out, rfl, rfl⟩⟩
        exact ((((((hlow.out).setCell (Nat.le_refl _) _).setCell (Nat.le_refl _) _).setCell (Nat.le_refl _) _).setCell (Nat.le_refl _) _).setCell (Nat.le_refl _) _).setCell (Nat.le_refl _) _
      | true =>
        have hy2 : ∀ j, j < k + 1 → isName (wrd s (2 + j)) = true := fun j hj => by
          by_cases c : j = k
          · rw [c]; exact hbk.out.symm
          · exact hy.out j (by omega)
        replace hy2 := Lib.hid hy2
        go_wp2
        go_roundw
        case rel => exact ⟨k + 1, by go_num, by omega, hy2.out, hV4.out⟩
        case measure => simp [intOf]; omega
    · have hc1 : ¬ (k : Int) < ((L - 2 : Nat) : Int) := by omega
      have hall : ∀ p, p ∈ (words s).drop 2 → isName p = true := fun p hp => by
        obtain ⟨j, hj, e⟩ := List.getElem_of_mem hp
        rw [List.length_drop, ← hL.out] at hj
        have h1 := hy.out j (by omega)
        rw [List.getElem_drop] at e
        have h2 := wrd_at (s := s) (k := 2 + j) (by rw [← hL.out]; omega)
        rw [List.getElem?_eq_getElem (by rw [← hL.out]; omega)] at h2
        have h3 : p = wrd s (2 + j) := by rw [← e]; exact Option.some.inj h2
        rw [h3]; exact h1
      have hL1 : 1 < L := by omega
      have hL1i : (1 : Int) < L := by omega
      have c1 := hV3.out.cell (k := 1) (by rw [← hL.out]; omega)
      have hvr := vread_any (wrd s 1) wr hV3.out.mx (by have := wrd_le (s := s) (k := 1) (by rw [← hL.out]; omega); omega)
      obtain ⟨u, hu⟩ : ∃ u : V4, u = (vecOf (wrd s 1)).1 := ⟨_, rfl⟩
      obtain ⟨r, hr⟩ : ∃ r : Int, r = (vecOf (wrd s 1)).2 := ⟨_, rfl⟩
      rw [← hu, ← hr] at hvr
      replace hall := Lib.hid hall; replace hvr := Lib.hid hvr; replace hu := Lib.hid hu; replace hr := Lib.hid hr
      go_wp2_with fail
      refine hvr.out.mono ?_
      rintro e w5 ⟨rfl, hb5⟩
      have hV5 := hV3.out.below hb5
      clear c1
      replace hb5 := Lib.hid hb5; replace hV5 := Lib.hid hV5
      by_cases hr0' : r = 0
      · have dr : (r != 0) = false := by simp [hr0']
        have hyes : nodeOk s := ⟨by rw [← hL.out]; omega, hb0'.out.symm, hall.out, by rw [← hr.out]; exact hr0'⟩
        have hz := nodeOf_yes hyes
        obtain ⟨W6, hW6⟩ : ∃ W6, W6 = w5.alloc (.cells u.cells 25 (0, 0)) := ⟨_, rfl⟩
        have hV6 : NdW w s W6 := by rw [hW6]; exact hV5.out.below ((Below.refl _ _).alloc (Nat.le_refl _) (.cells u.cells 25 (0, 0)))
        have c0 := hV6.cell (k := 0) (by rw [← hL.out]; omega)
        have hux : W6.heap[w5.heap.size]? = some (.cells u.cells 25 (0, 0)) := by rw [hW6]; exact blk_new _ _
        have cx := blk_cell hV6.res
        have fx := blk_free hV6.res
        have q0 := blk_cell hux 0
        have q1 := blk_cell hux 1
        have q2 := blk_cell hux 2
        have q3 := blk_cell hux 3
        simp at q0 q1 q2 q3
        replace hyes := Lib.hid hyes; replace hz := Lib.hid hz; replace hV6 := Lib.hid hV6; replace hux := Lib.hid hux; replace hr0' := Lib.hid hr0'
        have hW6' := Lib.hid hW6
        clear hW6
        go_upto_region 13 with fail
        rw [← hW6'.out]
        go_still_tail 7, (by kernel_rfl)
        change wpList _ _ _ _ _ W6.drew
        have hrow9 : ∀ v0 v1 v2 v3 v4 v5, (((((((W6.setCell ⟨w.heap.size, 0, none⟩ v0).setCell ⟨w.heap.size, 1, none⟩ v1).setCell ⟨w.heap.size, 2, none⟩ v2).setCell ⟨w.heap.size, 3, none⟩ v3).setCell ⟨w.heap.size, 4, none⟩ v4).setCell ⟨w.heap.size, 5, none⟩ v5).drew).heap[w.heap.size + 1]? = some (.cells ((words s).map Value.string).toArray 9 (0, 0)) := fun v0 v1 v2 v3 v4 v5 =>
          blk_drew (blk_set_other (by omega) _ (blk_set_other (by omega) _ (blk_set_other (by omega) _ (blk_set_other (by omega) _ (blk_set_other (by omega) _ (blk_set_other (by omega) _ hV6.out.row))))))
        have hlow9 : ∀ v0 v1 v2 v3 v4 v5, Below w.heap.size w (((((((W6.setCell ⟨w.heap.size, 0, none⟩ v0).setCell ⟨w.heap.size, 1, none⟩ v1).setCell ⟨w.heap.size, 2, none⟩ v2).setCell ⟨w.heap.size, 3, none⟩ v3).setCell ⟨w.heap.size, 4, none⟩ v4).setCell ⟨w.heap.size, 5, none⟩ v5).drew) := fun v0 v1 v2 v3 v4 v5 =>
          (((((((hV6.out.low).setCell (Nat.le_refl _) _).setCell (Nat.le_refl _) _).setCell (Nat.le_refl _) _).setCell (Nat.le_refl _) _).setCell (Nat.le_refl _) _).setCell (Nat.le_refl _) _).drew
        replace hrow9 := Lib.hid hrow9; replace hlow9 := Lib.hid hlow9
        go_wp2
        refine bodyPost_ret (v := .tuple #[(⟨wrd s 0, u, some ⟨w.heap.size + 1, 2, none⟩, L - 2, L - 2, (words s).drop 2⟩ : Nde).val, .int .i64 0]) (by simp [results, Tryd.results80, go_sem, cx]) rfl ⟨⟨wrd s 0, u, some ⟨w.heap.size + 1, 2, none⟩, L - 2, L - 2, (words s).drop 2⟩, 0, rfl, ⟨?_, Nat.le_refl _⟩, hlow9.out _ _ _ _ _ _, fun b off e => (by cases e; exact ⟨by omega, _, hrow9.out _ _ _ _ _ _⟩), .inr ⟨by rw [hz.out, ← hu.out]; rfl, rfl⟩⟩
        have h := (strs_of_blk (hrow9.out (.string (wrd s 0)) (.int .i64 u.a) (.int .i64 u.b) (.int .i64 u.c) (.int .i64 u.d) (.slice (some ⟨w.heap.size + 1, 2, none⟩) (L - 2) (L - 2))) (by rw [← hL.out]; omega)).sub 2 (by rw [← hL.out]; omega)
        rw [Nat.zero_add, ← hL.out] at h
        exact h
      · have dr : (r != 0) = true := by simp [hr0']
        have hno : ¬ nodeOk s := fun h => by have := h.2.2.2; rw [← hr.out] at this; exact hr0' this
        have hV6 := hV5.out.below ((Below.refl _ _).alloc (Nat.le_refl _) (.cells u.cells 25 (0, 0)))
        replace hno := Lib.hid hno; replace hV6 := Lib.hid hV6; replace hr0' := Lib.hid hr0'
        have hz := nodeOf_no hno.out
        have cx := blk_cell (hV6).out.res
        have fx := blk_free (hV6).out.res
        have hlow := (hV6).out.low
        replace hz := Lib.hid hz; replace hlow := Lib.hid hlow
        go_wp2
        refine bodyPost_ret (v := .tuple #[Nde.zero.val, .int .i64 50]) (by simp [results, Tryd.results80, go_sem, cx, Nde.zero, V4.zero]; rfl) rfl ⟨Nde.zero, 50, rfl, Nde.zero_ok _, ?_, fun b off e => (by cases e), .inl ⟨hz.out, rfl, rfl⟩⟩
        exact ((((((hlow.out).setCell (Nat.le_refl _) _).setCell (Nat.le_refl _) _).setCell (Nat.le_refl _) _).setCell (Nat.le_refl _) _).setCell (Nat.le_refl _) _).setCell (Nat.le_refl _) _
end Go.Proofs.YteoihdkaoipocaaDoor
