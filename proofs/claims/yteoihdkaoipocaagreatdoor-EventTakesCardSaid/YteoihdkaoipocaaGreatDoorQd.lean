/- Parts Nod, Flt, Put, Rgf, Lin, Rdp, Rdq, Rdr, Bld, Rdf in one text. Plain theorems: no condition. -/
import Derived.Test.YteoihdkaoipocaaGreatDoorQa
import Derived.StillTailTactics
import Derived.Maps.OwnSet
import Derived.Maps.OwnOps
import Derived.Maps.Own
import Derived.Deep.DeepCutAuto
import Derived.Deep.RegionWith
import Derived.Deep.CutBlock
import Derived.Deep.RegionLaw
import Derived.Deep.RegionHeld3
import Derived.RangeFuncWrites
import Derived.RangeFuncLeaves
import Derived.WalkKit
import Derived.RangeFuncNested
import Derived.RangeFuncBound
import Derived.RangeFuncCalls
import Derived.Shelf.Abstract
import Derived.Shelf.RegionOpen
import Derived.OwnWalkIn
import Derived.TacticsInMore
import Derived.LoopNIn
import Derived.LoopIn
import Derived.Maps.OwnIn
import Derived.Lib.OthersKept
import Derived.Shelf.Strings.Builder1
import Derived.Lib.Builder
import Derived.OwnWalk
/- fleet.node: the node of a line. -/
namespace Go.Proofs.YteoihdkaoipocaaGreatDoor
open Go.RowKit

structure Nde where
  name : ByteArray
  cap : V4
  po : Option Addr
  pn : Nat
  pc : Nat
  parts : List ByteArray
abbrev Nde.cells (x : Nde) : Array Value := #[.string x.name, .int .i64 x.cap.a, .int .i64 x.cap.b, .int .i64 x.cap.c, .int .i64 x.cap.d, .slice x.po x.pn x.pc]
abbrev Nde.val (x : Nde) : Value := .agg #[.string x.name, .int .i64 x.cap.a, .int .i64 x.cap.b, .int .i64 x.cap.c, .int .i64 x.cap.d, .slice x.po x.pn x.pc]
def Nde.zero : Nde := ⟨ByteArray.empty, V4.zero, none, 0, 0, []⟩
structure Nde.ok (w : World) (x : Nde) : Prop where
  parts : StrsAt w x.po x.pn x.parts
  ple : x.pn ≤ x.pc
theorem Nde.ok.low {w w' : World} {x : Nde} (h : x.ok w) (hb : Below w.heap.size w w') : x.ok w' := ⟨h.parts.low hb, h.ple⟩
theorem strs_none (w : World) : StrsAt w none 0 [] := ⟨rfl, by omega, fun i x h => by simp at h⟩
theorem Nde.zero_ok (w : World) : Nde.zero.ok w := ⟨strs_none w, Nat.le_refl _⟩
/-- a node as it is told -/
structure Ndv where
  name : ByteArray
  cap : V4
  parts : List ByteArray
def Nde.pl (x : Nde) : Ndv := ⟨x.name, x.cap, x.parts⟩

def words (s : ByteArray) : List ByteArray := (cutAll 32 s.data.toList).map ofL
def wrd (s : ByteArray) (k : Nat) : ByteArray := (words s).getD k ByteArray.empty
def nodeOk (s : ByteArray) : Prop := 3 ≤ (words s).length ∧ isName (wrd s 0) = true ∧ (∀ p, p ∈ (words s).drop 2 → isName p = true) ∧ (vecOf (wrd s 1)).2 = 0
instance (s : ByteArray) : Decidable (nodeOk s) := by unfold nodeOk; infer_instance
/-- the node of a line -/
def nodeOf (s : ByteArray) : Option Ndv := if nodeOk s then some ⟨wrd s 0, (vecOf (wrd s 1)).1, (words s).drop 2⟩ else none
theorem nodeOf_no {s : ByteArray} (h : ¬ nodeOk s) : nodeOf s = none := if_neg h
theorem nodeOf_yes {s : ByteArray} (h : nodeOk s) : nodeOf s = some ⟨wrd s 0, (vecOf (wrd s 1)).1, (words s).drop 2⟩ := if_pos h

theorem cutAll_le {x : UInt8} : ∀ {l p : List UInt8}, p ∈ cutAll x l → p.length ≤ l.length := by
  have key : ∀ (n : Nat) (l p : List UInt8), l.length ≤ n → p ∈ cutAll x l → p.length ≤ l.length := by
    intro n
    induction n with
    | zero =>
      intro l p h hp
      have : l = [] := List.length_eq_zero_iff.1 (by omega)
      subst this
      have : p = [] := by simpa [cutAll] using hp
      subst this; simp
    | succ n ih =>
      intro l p h hp
      rcases first_of x l with hc | ⟨a, r, rfl, h2⟩
      · rw [cutAll_no hc] at hp
        have : p = l := by simpa using hp
        rw [this]; exact Nat.le_refl _
      · rw [cutAll_hit h2] at hp
        simp at h
        rcases List.mem_cons.1 hp with rfl | hp
        · simp
        · have := ih r p (by omega) hp
          simp; omega
  exact fun {l p} hp => key l.length l p (Nat.le_refl _) hp
theorem cutAll_many {x : UInt8} (l : List UInt8) : (cutAll x l).length ≤ l.length + 1 := by
  induction l with
  | nil => simp [cutAll]
  | cons b l ih =>
    have := cutAll_pos x l
    unfold cutAll
    split
    · simp; omega
    · simp; omega
theorem words_le {s p : ByteArray} (h : p ∈ words s) : p.size ≤ s.size := by
  obtain ⟨l, hl, rfl⟩ := List.mem_map.1 h
  rw [ofL_size]; exact cutAll_le hl
theorem words_many (s : ByteArray) : (words s).length ≤ s.size + 1 := by
  unfold words; rw [List.length_map]; exact cutAll_many _
theorem wrd_at {s : ByteArray} {k : Nat} (h : k < (words s).length) : (words s)[k]? = some (wrd s k) := by
  unfold wrd; simp [List.getD, List.getElem?_eq_getElem h]
theorem wrd_le {s : ByteArray} {k : Nat} (h : k < (words s).length) : (wrd s k).size ≤ s.size := words_le (List.mem_of_getElem? (wrd_at h))

/-- what a line's node is -/
def NodePost (s : ByteArray) (w : World) (e : Ending) (w' : World) : Prop :=
  ∃ (x : Nde) (r : Int), e = .returned (.tuple #[x.val, .int .i64 r]) ∧ x.ok w' ∧ Below w.heap.size w w' ∧ (∀ b off, x.po = some ⟨b, off, none⟩ → w.heap.size ≤ b ∧ ∃ c, w'.heap[b]? = some (.cells c 9 (0, 0))) ∧ ((nodeOf s = none ∧ r = 50 ∧ x = Nde.zero) ∨ (nodeOf s = some x.pl ∧ r = 0))

/-- what stands behind the splitting -/
structure NdW (w : World) (s : ByteArray) (wr : World) : Prop where
  low : Below w.heap.size w wr
  mx : Mx wr
  res : wr.heap[w.heap.size]? = some (.cells Nde.zero.cells 73 (0, 0))
  row : wr.heap[w.heap.size + 1]? = some (.cells ((words s).map Value.string).toArray 9 (0, 0))
theorem NdW.below {w wr w' : World} {s : ByteArray} (h : NdW w s wr) (hb : Below wr.heap.size wr w') : NdW w s w' :=
  ⟨h.low.trans (hb.mono h.low.size), h.mx.low hb, blk_below hb h.res (blk_lt h.res), blk_below hb h.row (blk_lt h.row)⟩
theorem NdW.cell {w wr : World} {s : ByteArray} (h : NdW w s wr) {k : Nat} (hk : k < (words s).length) : wr.cell? ⟨w.heap.size + 1, k, none⟩ = some (.string (wrd s k)) := by
  rw [blk_cell h.row]; simp [wrd_at hk]

set_option maxRecDepth 100000 in
set_option maxHeartbeats 6400000 in
theorem node_any (s : ByteArray) (w : World) (hm : Mx w) (hs : s.size ≤ 4294967200) : Calls Tryz.prog 29 #[.string s] w (NodePost s w) := by
  obtain ⟨i9, hi9, hz9, hz91, hz92⟩ := info_parts info9
  obtain ⟨W0, hW0⟩ : ∃ W0, W0 = w.alloc (.cells Nde.zero.cells 73 (0, 0)) := ⟨_, rfl⟩
  have hb0 : Below w.heap.size w W0 := by rw [hW0]; exact (Below.refl _ _).alloc (Nat.le_refl _) _
  have hr0 : W0.heap[w.heap.size]? = some (.cells Nde.zero.cells 73 (0, 0)) := by rw [hW0]; exact blk_new _ _
  have hz0 : W0.heap.size = w.heap.size + 1 := by rw [hW0]; simp
  have hsp := split_call s 32 W0 (hm.low hb0) (by omega)
  rw [hW0] at hsp
  obtain ⟨L, hL⟩ : ∃ L, L = (words s).length := ⟨_, rfl⟩
  have hL' : (cutAll 32 s.data.toList).length = L := by rw [hL]; unfold words; rw [List.length_map]
  rw [hL'] at hsp
  have hLm := words_many s
  rw [← hL] at hLm
  replace hb0 := Lib.hid hb0; replace hr0 := Lib.hid hr0; replace hz0 := Lib.hid hz0; replace hsp := Lib.hid hsp; replace hL := Lib.hid hL; replace hm := Lib.hid hm; replace hL' := Lib.hid hL'
  have hW0' := Lib.hid hW0
  clear hW0
  go_enter Tryz.func29, Tryz.ntmps29
  go_wp2_with fail
  refine hsp.out.mono ?_
  rw [← hW0'.out]
  rintro e w1 ⟨rfl, hw1⟩
  have hV : NdW w s w1 := by
    have hb1 : Below W0.heap.size W0 w1 := by rw [hw1]; exact (Below.refl _ _).alloc (Nat.le_refl _) _
    refine ⟨hb0.out.trans (hb1.mono hb0.out.size), (hm.out.low hb0.out).low hb1, blk_below hb1 hr0.out (blk_lt hr0.out), ?_⟩
    rw [hw1, ← hz0.out]; exact blk_new _ _
  rw [hz0.out]
  replace hw1 := Lib.hid hw1; replace hV := Lib.hid hV
  by_cases h3 : L < 3
  · have d3 : decide ((L : Int) < 3) = true := decide_eq_true (by omega)
    have d3' : decide (L < 3) = true := decide_eq_true h3
    have hno : ¬ nodeOk s := fun h => by have := h.1; rw [← hL.out] at this; omega
    replace hno := Lib.hid hno
    have hz := nodeOf_no hno.out
    have cx := blk_cell (hV).out.res
    have fx := blk_free (hV).out.res
    have hlow := (hV).out.low
    replace hz := Lib.hid hz; replace hlow := Lib.hid hlow
    go_wp2
    refine bodyPost_ret (v := .tuple #[Nde.zero.val, .int .i64 50]) (by simp [results, Tryz.results29, go_sem, cx, Nde.zero, V4.zero]; rfl) rfl ⟨Nde.zero, 50, rfl, Nde.zero_ok _, ?_, fun b off e => (by cases e), .inl ⟨hz.out, rfl, rfl⟩⟩
    exact ((((((hlow.out).setCell (Nat.le_refl _) _).setCell (Nat.le_refl _) _).setCell (Nat.le_refl _) _).setCell (Nat.le_refl _) _).setCell (Nat.le_refl _) _).setCell (Nat.le_refl _) _
  have d3 : decide ((L : Int) < 3) = false := decide_eq_false (by omega)
  have d3' : decide (L < 3) = false := decide_eq_false h3
  have hL0 : 0 < L := by omega
  have hL0i : (0 : Int) < L := by omega
  have c0 := hV.out.cell (k := 0) (by rw [← hL.out]; omega)
  have hna := name_any (wrd s 0) w1 (by have := wrd_le (s := s) (k := 0) (by rw [← hL.out]; omega); have : maxLen = 9223372036854775807 := rfl; omega)
  obtain ⟨b0, hb0'⟩ : ∃ b0, b0 = isName (wrd s 0) := ⟨_, rfl⟩
  rw [← hb0'] at hna
  replace hna := Lib.hid hna; replace hb0' := Lib.hid hb0'
  go_wp2_with fail
  refine hna.out.mono ?_
  rintro e w2 ⟨rfl, hb2⟩
  have hV2 := hV.out.below hb2
  clear c0
  replace hb2 := Lib.hid hb2; replace hV2 := Lib.hid hV2
  cases b0 with
  | false =>
    have hno : ¬ nodeOk s := fun h => by have := h.2.1; rw [← hb0'.out] at this; cases this
    replace hno := Lib.hid hno
    have hz := nodeOf_no hno.out
    have cx := blk_cell (hV2).out.res
    have fx := blk_free (hV2).out.res
    have hlow := (hV2).out.low
    replace hz := Lib.hid hz; replace hlow := Lib.hid hlow
    go_wp2
    refine bodyPost_ret (v := .tuple #[Nde.zero.val, .int .i64 50]) (by simp [results, Tryz.results29, go_sem, cx, Nde.zero, V4.zero]; rfl) rfl ⟨Nde.zero, 50, rfl, Nde.zero_ok _, ?_, fun b off e => (by cases e), .inl ⟨hz.out, rfl, rfl⟩⟩
    exact ((((((hlow.out).setCell (Nat.le_refl _) _).setCell (Nat.le_refl _) _).setCell (Nat.le_refl _) _).setCell (Nat.le_refl _) _).setCell (Nat.le_refl _) _).setCell (Nat.le_refl _) _
  | true =>
  obtain ⟨ta, hsl, hta⟩ := slice_from (P := Tryz.prog) Tryz.underlying71 hi9 (w.heap.size + 1) L L 2 2 rfl (by omega)
  have hta' := hta (by omega)
  rw [hz91] at hta'
  subst hta'
  clear hta
  simp only [Nat.mul_one] at hsl
  have hV2' := hV2.out
  replace hV2' := Lib.hid hV2'
  go_wp2
  go_loopw [6, 25] (fun _ i wr => ∃ k : Nat, i = .int .i64 k ∧ k ≤ L - 2 ∧ Hid (∀ j, j < k → isName (wrd s (2 + j)) = true) ∧ Hid (NdW w s wr)) (fun _ i _ => (L - 2) - (intOf i).toNat)
  case atStart => exact ⟨0, rfl, Nat.zero_le _, fun j hj => absurd hj (Nat.not_lt_zero _), hV2'.out⟩
  case round =>
    obtain ⟨k, rfl, hk, hy, hV3⟩ := hrel
    by_cases hk1 : k < L - 2
    · have hc1 : (k : Int) < ((L - 2 : Nat) : Int) := by omega
      have hk0 : (0 : Int) ≤ (k : Int) := by omega
      have c2 := hV3.out.cell (k := 2 + k) (by rw [← hL.out]; omega)
      have hna := name_any (wrd s (2 + k)) wr (by have := wrd_le (s := s) (k := 2 + k) (by rw [← hL.out]; omega); have : maxLen = 9223372036854775807 := rfl; omega)
      obtain ⟨bk, hbk⟩ : ∃ bk, bk = isName (wrd s (2 + k)) := ⟨_, rfl⟩
      rw [← hbk] at hna
      replace hna := Lib.hid hna; replace hbk := Lib.hid hbk
      go_wp2_with fail
      refine hna.out.mono ?_
      rintro e w4 ⟨rfl, hb4⟩
      have hV4 := hV3.out.below hb4
      clear c2
      replace hb4 := Lib.hid hb4; replace hV4 := Lib.hid hV4
      cases bk with
      | false =>
        have hno : ¬ nodeOk s := fun h => by
          have := h.2.2.1 (wrd s (2 + k)) (List.mem_of_getElem? (by rw [List.getElem?_drop]; exact wrd_at (by rw [← hL.out]; omega)))
          rw [← hbk.out] at this; cases this
        replace hno := Lib.hid hno
        have hz := nodeOf_no hno.out
        have cx := blk_cell (hV4).out.res
        have fx := blk_free (hV4).out.res
        have hlow := (hV4).out.low
        replace hz := Lib.hid hz; replace hlow := Lib.hid hlow
        go_wp2
        refine bodyPost_ret (v := .tuple #[Nde.zero.val, .int .i64 50]) (by simp [results, Tryz.results29, go_sem, cx, Nde.zero, V4.zero]; rfl) rfl ⟨Nde.zero, 50, rfl, Nde.zero_ok _, ?_, fun b off e => (by cases e), .inl ⟨hz.out, rfl, rfl⟩⟩
        exact ((((((hlow.out).setCell (Nat.le_refl _) _).setCell (Nat.le_refl _) _).setCell (Nat.le_refl _) _).setCell (Nat.le_refl _) _).setCell (Nat.le_refl _) _).setCell (Nat.le_refl _) _
      | true =>
        have hy2 : ∀ j, j < k + 1 → isName (wrd s (2 + j)) = true := fun j hj => by
          by_cases c : j = k
          · rw [c]; exact hbk.out.symm
          · exact hy.out j (by omega)
        replace hy2 := Lib.hid hy2
        go_wp2
        go_roundw
        case rel => exact ⟨k + 1, by go_num, by omega, hy2.out, hV4.out⟩
        case measure => simp [intOf]; omega
    · have hc1 : ¬ (k : Int) < ((L - 2 : Nat) : Int) := by omega
      have hall : ∀ p, p ∈ (words s).drop 2 → isName p = true := fun p hp => by
        obtain ⟨j, hj, e⟩ := List.getElem_of_mem hp
        rw [List.length_drop, ← hL.out] at hj
        have h1 := hy.out j (by omega)
        rw [List.getElem_drop] at e
        have h2 := wrd_at (s := s) (k := 2 + j) (by rw [← hL.out]; omega)
        rw [List.getElem?_eq_getElem (by rw [← hL.out]; omega)] at h2
        have h3 : p = wrd s (2 + j) := by rw [← e]; exact Option.some.inj h2
        rw [h3]; exact h1
      have hL1 : 1 < L := by omega
      have hL1i : (1 : Int) < L := by omega
      have c1 := hV3.out.cell (k := 1) (by rw [← hL.out]; omega)
      have hvr := vread_any (wrd s 1) wr hV3.out.mx (by have := wrd_le (s := s) (k := 1) (by rw [← hL.out]; omega); omega)
      obtain ⟨u, hu⟩ : ∃ u : V4, u = (vecOf (wrd s 1)).1 := ⟨_, rfl⟩
      obtain ⟨r, hr⟩ : ∃ r : Int, r = (vecOf (wrd s 1)).2 := ⟨_, rfl⟩
      rw [← hu, ← hr] at hvr
      replace hall := Lib.hid hall; replace hvr := Lib.hid hvr; replace hu := Lib.hid hu; replace hr := Lib.hid hr
      go_wp2_with fail
      refine hvr.out.mono ?_
      rintro e w5 ⟨rfl, hb5⟩
      have hV5 := hV3.out.below hb5
      clear c1
      replace hb5 := Lib.hid hb5; replace hV5 := Lib.hid hV5
      by_cases hr0' : r = 0
      · have dr : (r != 0) = false := by simp [hr0']
        have hyes : nodeOk s := ⟨by rw [← hL.out]; omega, hb0'.out.symm, hall.out, by rw [← hr.out]; exact hr0'⟩
        have hz := nodeOf_yes hyes
        obtain ⟨W6, hW6⟩ : ∃ W6, W6 = w5.alloc (.cells u.cells 23 (0, 0)) := ⟨_, rfl⟩
        have hV6 : NdW w s W6 := by rw [hW6]; exact hV5.out.below ((Below.refl _ _).alloc (Nat.le_refl _) (.cells u.cells 23 (0, 0)))
        have c0 := hV6.cell (k := 0) (by rw [← hL.out]; omega)
        have hux : W6.heap[w5.heap.size]? = some (.cells u.cells 23 (0, 0)) := by rw [hW6]; exact blk_new _ _
        have cx := blk_cell hV6.res
        have fx := blk_free hV6.res
        have q0 := blk_cell hux 0
        have q1 := blk_cell hux 1
        have q2 := blk_cell hux 2
        have q3 := blk_cell hux 3
        simp at q0 q1 q2 q3
        replace hyes := Lib.hid hyes; replace hz := Lib.hid hz; replace hV6 := Lib.hid hV6; replace hux := Lib.hid hux; replace hr0' := Lib.hid hr0'
        have hW6' := Lib.hid hW6
        clear hW6
        go_upto_region 13 with fail
        rw [← hW6'.out]
        go_still_tail 7, (by kernel_rfl)
        change wpList _ _ _ _ _ W6.drew
        have hrow9 : ∀ v0 v1 v2 v3 v4 v5, (((((((W6.setCell ⟨w.heap.size, 0, none⟩ v0).setCell ⟨w.heap.size, 1, none⟩ v1).setCell ⟨w.heap.size, 2, none⟩ v2).setCell ⟨w.heap.size, 3, none⟩ v3).setCell ⟨w.heap.size, 4, none⟩ v4).setCell ⟨w.heap.size, 5, none⟩ v5).drew).heap[w.heap.size + 1]? = some (.cells ((words s).map Value.string).toArray 9 (0, 0)) := fun v0 v1 v2 v3 v4 v5 =>
          blk_drew (blk_set_other (by omega) _ (blk_set_other (by omega) _ (blk_set_other (by omega) _ (blk_set_other (by omega) _ (blk_set_other (by omega) _ (blk_set_other (by omega) _ hV6.out.row))))))
        have hlow9 : ∀ v0 v1 v2 v3 v4 v5, Below w.heap.size w (((((((W6.setCell ⟨w.heap.size, 0, none⟩ v0).setCell ⟨w.heap.size, 1, none⟩ v1).setCell ⟨w.heap.size, 2, none⟩ v2).setCell ⟨w.heap.size, 3, none⟩ v3).setCell ⟨w.heap.size, 4, none⟩ v4).setCell ⟨w.heap.size, 5, none⟩ v5).drew) := fun v0 v1 v2 v3 v4 v5 =>
          (((((((hV6.out.low).setCell (Nat.le_refl _) _).setCell (Nat.le_refl _) _).setCell (Nat.le_refl _) _).setCell (Nat.le_refl _) _).setCell (Nat.le_refl _) _).setCell (Nat.le_refl _) _).drew
        replace hrow9 := Lib.hid hrow9; replace hlow9 := Lib.hid hlow9
        go_wp2
        refine bodyPost_ret (v := .tuple #[(⟨wrd s 0, u, some ⟨w.heap.size + 1, 2, none⟩, L - 2, L - 2, (words s).drop 2⟩ : Nde).val, .int .i64 0]) (by simp [results, Tryz.results29, go_sem, cx]) rfl ⟨⟨wrd s 0, u, some ⟨w.heap.size + 1, 2, none⟩, L - 2, L - 2, (words s).drop 2⟩, 0, rfl, ⟨?_, Nat.le_refl _⟩, hlow9.out _ _ _ _ _ _, fun b off e => (by cases e; exact ⟨by omega, _, hrow9.out _ _ _ _ _ _⟩), .inr ⟨by rw [hz.out, ← hu.out]; rfl, rfl⟩⟩
        have h := (strs_of_blk (hrow9.out (.string (wrd s 0)) (.int .i64 u.a) (.int .i64 u.b) (.int .i64 u.c) (.int .i64 u.d) (.slice (some ⟨w.heap.size + 1, 2, none⟩) (L - 2) (L - 2))) (by rw [← hL.out]; omega)).sub 2 (by rw [← hL.out]; omega)
        rw [Nat.zero_add, ← hL.out] at h
        exact h
      · have dr : (r != 0) = true := by simp [hr0']
        have hno : ¬ nodeOk s := fun h => by have := h.2.2.2; rw [← hr.out] at this; exact hr0' this
        have hV6 := hV5.out.below ((Below.refl _ _).alloc (Nat.le_refl _) (.cells u.cells 23 (0, 0)))
        replace hno := Lib.hid hno; replace hV6 := Lib.hid hV6; replace hr0' := Lib.hid hr0'
        have hz := nodeOf_no hno.out
        have cx := blk_cell (hV6).out.res
        have fx := blk_free (hV6).out.res
        have hlow := (hV6).out.low
        replace hz := Lib.hid hz; replace hlow := Lib.hid hlow
        go_wp2
        refine bodyPost_ret (v := .tuple #[Nde.zero.val, .int .i64 50]) (by simp [results, Tryz.results29, go_sem, cx, Nde.zero, V4.zero]; rfl) rfl ⟨Nde.zero, 50, rfl, Nde.zero_ok _, ?_, fun b off e => (by cases e), .inl ⟨hz.out, rfl, rfl⟩⟩
        exact ((((((hlow.out).setCell (Nat.le_refl _) _).setCell (Nat.le_refl _) _).setCell (Nat.le_refl _) _).setCell (Nat.le_refl _) _).setCell (Nat.le_refl _) _).setCell (Nat.le_refl _) _
end Go.Proofs.YteoihdkaoipocaaGreatDoor

/- A fleet in memory: its nodes' row and its map of names. -/
namespace Go.Proofs.YteoihdkaoipocaaGreatDoor
open Go.RowKit Go.Maps

/-- things laid one behind the other -/
def flatv {α : Type} (cells : α → Array Value) (xs : List α) : List Value := xs.flatMap fun x => (cells x).toList
theorem flatv_append {α : Type} (cells : α → Array Value) (xs ys : List α) : flatv cells (xs ++ ys) = flatv cells xs ++ flatv cells ys := by simp [flatv]
theorem flatv_one {α : Type} (cells : α → Array Value) (x : α) : flatv cells [x] = (cells x).toList := by simp [flatv]
theorem flatv_get {α : Type} {cells : α → Array Value} {sz : Nat} (hsz : ∀ x, (cells x).size = sz) (xs : List α) {i j : Nat} {x : α} (hx : xs[i]? = some x) (hj : j < sz) : (flatv cells xs)[i * sz + j]? = (cells x)[j]? := by
  induction xs generalizing i with
  | nil => simp at hx
  | cons y ys ih =>
    have hy := hsz y
    rw [show flatv cells (y :: ys) = (cells y).toList ++ flatv cells ys from by simp [flatv]]
    cases i with
    | zero =>
      have e : x = y := by simpa using hx.symm
      subst e
      rw [List.getElem?_append_left (by simp; omega)]
      simp
    | succ i =>
      have hx' : ys[i]? = some x := by simpa using hx
      rw [List.getElem?_append_right (by simp [hy, Nat.add_mul]; omega)]
      have := ih hx'
      rw [show (i + 1) * sz + j - (cells y).toList.length = i * sz + j by simp [hy, Nat.add_mul]; omega, this]
theorem nde_size (x : Nde) : x.cells.size = 6 := rfl

/-- what a row of names reads as, each with its place -/
abbrev DU := DataW Unit
def keyB (s : ByteArray) : Lit := .string s.data.toList
def mapD (ns : List ByteArray) : DU := (ns.zipIdx).foldl (fun m p => m.put (keyB p.1) (.lit (.int .i64 (p.2 : Int)))) (.map [])
theorem mapD_snoc (ns : List ByteArray) (x : ByteArray) : mapD (ns ++ [x]) = (mapD ns).put (keyB x) (.lit (.int .i64 (ns.length : Int))) := by
  unfold mapD
  rw [List.zipIdx_append, List.foldl_append]
  simp
theorem keyB_inj {a b : ByteArray} (h : keyB a = keyB b) : a = b := by
  unfold keyB at h
  injection h with h
  exact toL_inj h
theorem keyB_lit (s : ByteArray) : WideAt.IsKeyLit (keyB s) := trivial
theorem rev_ind {α : Type} {p : List α → Prop} (h0 : p []) (h1 : ∀ l x, p l → p (l ++ [x])) : ∀ l, p l := by
  intro l
  have key : ∀ n (l : List α), l.length = n → p l := by
    intro n
    induction n with
    | zero => intro l hl; rw [List.length_eq_zero_iff.1 hl]; exact h0
    | succ n ih =>
      intro l hl
      cases h : l.reverse with
      | nil => have := congrArg List.length h; simp at this; rw [this] at hl; cases hl
      | cons x r =>
        have e : l = r.reverse ++ [x] := by rw [← List.reverse_reverse l, h]; simp
        rw [e] at hl ⊢
        exact h1 _ _ (ih _ (by simpa using hl))
  exact key _ l rfl
theorem mapD_isMap (ns : List ByteArray) : IsMap (mapD ns) := by
  induction ns using rev_ind with
  | h0 => exact isMap_empty
  | h1 l x ih => rw [mapD_snoc]; exact ih.put _ _
theorem mapD_has (ns : List ByteArray) (s : ByteArray) : has (mapD ns) (keyB s) = true ↔ s ∈ ns := by
  induction ns using rev_ind with
  | h0 => simp [mapD, has]
  | h1 l x ih =>
    rw [mapD_snoc]
    by_cases e : s = x
    · subst e
      rw [has_put_same (mapD_isMap l) (keyB_lit _)]; simp
    · rw [has_put_other (fun c => e (keyB_inj c)), ih]
      simp [e]
/-- a node's parts lie in a row of texts -/
def PartsAt (W : World) (x : Nde) : Prop := ∀ b off, x.po = some ⟨b, off, none⟩ → ∃ c, W.heap[b]? = some (.cells c 9 (0, 0))
/-- a fleet in memory -/
structure FlW (W : World) (fb mb base : Nat) (nv : Value) (xs : List Nde) : Prop where
  head : W.heap[fb]? = some (.cells #[nv, .map (some mb)] 67 (0, 0))
  row : W.ownsRow base 73 6 nv xs.length (flatv Nde.cells xs)
  map : W.ownsMap Tryz.prog 9 (plainElem (H := Unit) Tryz.prog 3) mb xs.length (mapD (xs.map Nde.name))
  ok : ∀ x, x ∈ xs → x.ok W ∧ PartsAt W x
theorem strs_keep {w w' : World} {so : Option Addr} {n : Nat} {xs : List ByteArray} (h : StrsAt w so n xs) (hsz : w.heap.size ≤ w'.heap.size) (hb : ∀ b off, so = some ⟨b, off, none⟩ → b < w.heap.size → w'.heap[b]? = w.heap[b]?) : StrsAt w' so n xs :=
  ⟨h.len, h.max, fun i x hx => by
    obtain ⟨b, off, e, hlt, hc⟩ := h.cell i x hx
    exact ⟨b, off, e, by omega, (World.cell?_of_block (a := ⟨b, off + i, none⟩) (w := w) (hb b off e hlt)).trans hc⟩⟩
theorem FlW.below {w w' : World} {fb mb base : Nat} {nv : Value} {xs : List Nde} (h : FlW w fb mb base nv xs) (hb : Below w.heap.size w w') : FlW w' fb mb base nv xs := by
  refine ⟨blk_below hb h.head (blk_lt h.head), ⟨h.row.1, ?_⟩, ?_, fun x hx => ⟨(h.ok x hx).1.low hb, fun b off e => ?_⟩⟩
  · rcases h.row.2 with h | ⟨g, cap, cur, hv, hg, hh, hr⟩
    · exact .inl h
    · exact .inr ⟨g, cap, cur, hv, hg, blk_below hb hh (blk_lt hh), hr⟩
  · exact h.map.kept (row := none) ⟨hb.os, hb.tape, hb.output, hb.size, fun k hk _ => hb.block k hk⟩ (by simp)
  · obtain ⟨c, hc⟩ := (h.ok x hx).2 b off e
    exact ⟨c, blk_below hb hc (blk_lt hc)⟩
theorem FlW.cell {W : World} {fb mb base : Nat} {nv : Value} {xs : List Nde} (h : FlW W fb mb base nv xs) {k : Nat} {x : Nde} (hx : xs[k]? = some x) : ∃ g, nv.ownBlock = some g ∧ g < W.heap.size ∧ base ≤ g ∧ ∀ j, j < 6 → W.cell? ⟨g, k * 6 + j, none⟩ = (x.cells)[j]? := by
  have hk := (List.getElem?_eq_some_iff.1 hx).1
  rcases h.row.2 with ⟨hv, h0⟩ | ⟨g, cap, cur, hv, hg, hh, hr⟩
  · have : xs.length = 0 := h0
    omega
  · subst hv
    refine ⟨g, rfl, blk_lt hh, hg, fun j hj => ?_⟩
    rw [World.ownsRow.cellAt h.row (k * 6 + j) (by
      have : (k + 1) * 6 ≤ xs.length * 6 := Nat.mul_le_mul_right _ (by omega)
      omega), flatv_get nde_size xs hx hj]
end Go.Proofs.YteoihdkaoipocaaGreatDoor

/- (*fleet.Fleet).put: a node behind the others. -/
namespace Go.Proofs.YteoihdkaoipocaaGreatDoor
open Go.RowKit Go.Maps

instance decBA : DecidableEq ByteArray := fun a b => decidable_of_iff (a.data.toList = b.data.toList) ⟨toL_inj, fun h => by rw [h]⟩
def memB (ns : List ByteArray) (s : ByteArray) : Bool := ns.any fun n => decide (n = s)
theorem memB_iff {ns : List ByteArray} {s : ByteArray} : memB ns s = true ↔ s ∈ ns := by
  unfold memB
  rw [List.any_eq_true]
  exact ⟨fun ⟨x, h1, h2⟩ => by rw [← of_decide_eq_true h2]; exact h1, fun h => ⟨s, h, decide_eq_true rfl⟩⟩
/-- does one text of a row stand there twice? -/
def twiceL : List ByteArray → Bool
  | [] => false
  | p :: ps => memB ps p || twiceL ps
/-- what a put answers -/
def putE (ns : List ByteArray) (m : Nat) (name : ByteArray) (parts : List ByteArray) : Int :=
  if memB ns name = true then 51 else if twiceL parts = true then 51 else if 16 ≤ m ∨ 8 < parts.length then 2 else 0
/-- what a put keeps -/
structure PutK (fb mb base lo : Nat) (w w' : World) : Prop where
  low : Below lo w w'
  same : ∀ (k : Nat) (o : Obj), w.heap[k]? = some o → k ≠ mb → k ≠ fb → (k < base ∨ ∀ c fr, o ≠ .cells c 73 fr) → w'.heap[k]? = some o
theorem zero3 (w : World) : (zeroValue 3).run Tryz.prog w = .ok (.int .i64 0) w := by kernel_rfl
theorem fl_look {w : World} {fb mb base : Nat} {nv : Value} {xs : List Nde} (h : FlW w fb mb base nv xs) (s : ByteArray) (hs : s.size ≤ maxLen) :
    ∃ c, (Instr.lookup 65 (.map (some mb)) (.string s) true).run Tryz.prog w = .ok (.tuple #[.int .i64 c, .bool (has (mapD (xs.map Nde.name)) (keyB s))]) w ∧ (mapD (xs.map Nde.name)).atKey (keyB s) (.lit (.int .i64 0)) = .lit (.int .i64 c) := by
  obtain ⟨v, ps, h1, h2⟩ := h.map.look_ok (string_keyed Tryz.underlying9) Tryz.underlying65 (zero3 w) (plainElem_int Tryz.underlying3 (by decide)) (WideMaps.keyOf_string_mk Tryz.underlying9 hs)
  obtain ⟨c, rfl, hc, _⟩ := plainElem_int_inv Tryz.underlying3 h2
  exact ⟨c, h1, congrArg Prod.fst hc⟩

theorem slice_upto_g {P : Program} {t e : TypeId} {i : TypeInfo} (hU : P.underlying t = some (.slice e)) (hi : P.info? e = some i) (ad : Addr) (len cap n : Nat) (x : Int) (hx : x = n) (hn : n ≤ cap) (w : World) :
    (Instr.slice t (.slice (some ad) len cap) none (some (.int .i64 x)) none).run P w = .ok (.slice (some ad) n cap) w := by
  subst hx
  have h1 : ∀ (y : Nat) (_ : n ≤ y) c, (Instr.sliceBound (.int .i64 (n : Int)) y c).run P w = .ok n w := fun y h c => by
    simp [Instr.sliceBound, asIntOf, h]
  simp [Instr.slice, Instr.sliceBounds, run_underlying hU, h1 cap hn, sizeOf, typeInfo, hi, Addr.add]
/-- do two of the first k texts agree? -/
def DupTo (l : List ByteArray) (k : Nat) : Prop := ∃ i j s, j < i ∧ i < k ∧ l[i]? = some s ∧ l[j]? = some s
theorem twiceL_iff (l : List ByteArray) : twiceL l = true ↔ DupTo l l.length := by
  induction l with
  | nil => exact ⟨fun h => (by cases h), fun ⟨i, j, s, h1, h2, _⟩ => absurd h2 (Nat.not_lt_zero _)⟩
  | cons p ps ih =>
    unfold twiceL
    rw [Bool.or_eq_true, ih, memB_iff]
    constructor
    · rintro (h | ⟨i, j, s, h1, h2, h3, h4⟩)
      · obtain ⟨i, hi, e⟩ := List.getElem_of_mem h
        exact ⟨i + 1, 0, p, by omega, by simp; omega, by simp [List.getElem?_eq_getElem hi, e], by simp⟩
      · exact ⟨i + 1, j + 1, s, by omega, by simp; omega, by simpa using h3, by simpa using h4⟩
    · rintro ⟨i, j, s, h1, h2, h3, h4⟩
      cases i with
      | zero => omega
      | succ i =>
        simp at h2 h3
        cases j with
        | zero => simp at h4; subst h4; exact .inl (List.mem_of_getElem? h3)
        | succ j => simp at h4; exact .inr ⟨i, j, s, by omega, h2, h3, h4⟩
theorem six_pos : 0 < 6 := Nat.succ_pos _
theorem info48 : (Tryz.prog.info? 73).map (fun i => (i.zero, i.size, i.bytes)) = some (some (.agg #[.string ByteArray.empty, .int .i64 0, .int .i64 0, .int .i64 0, .int .i64 0, .slice none 0 0]), 6, 72) := by kernel_rfl
theorem nde_one (x : Nde) : ∀ u ∈ x.cells.toList, u.oneCell' = true := by simp [Value.oneCell']
theorem fl_map_ne {w : World} {fb mb base k : Nat} {nv : Value} {xs : List Nde} {c : Array Value} {T : TypeId} {fr : Nat × Nat} (h : FlW w fb mb base nv xs) (hk : w.heap[k]? = some (.cells c T fr)) : k ≠ mb := fun e => by
  obtain ⟨es, clock, hb, _⟩ := h.map
  rw [e, hb] at hk; cases hk
theorem nde_new (w : World) (x : Nde) : ∀ j u, x.cells.toList[j]? = some u → (w.alloc (.cells x.cells 73 (0, 0))).cell? ((⟨w.heap.size, 0, none⟩ : Addr).add j) = some u := by
  intro j u hu
  rw [Addr.add_lit, Nat.zero_add, blk_cell (blk_new w _) j]
  simpa using hu
theorem owns_block {w : World} {base size n g : Nat} {e : TypeId} {v : Value} {xs : List Value} (h : w.ownsRow base e size v n xs) (hg : v.ownBlock = some g) : ∃ cur, w.heap[g]? = some (.cells cur e (0, 0)) := by
  rcases h.2 with ⟨hv, _⟩ | ⟨g', cap, cur, hv, _, hh, _⟩
  · rw [hv] at hg; simp [Value.ownBlock] at hg
  · rw [hv] at hg
    have e' : g' = g := by simpa [Value.ownBlock] using hg
    subst e'
    exact ⟨cur, hh⟩
theorem PutK.of_low {fb mb base lo : Nat} {w w' : World} (h : Below w.heap.size w w') (hb : lo ≤ w.heap.size) : PutK fb mb base lo w w' :=
  ⟨h.mono hb, fun _ _ hk _ _ _ => blk_below h hk (blk_lt hk)⟩
structure PtC (base fb : Nat) (w5 : World) (X : Nde) (nv : Value) (n : Nat) (xs : List Nde) (wx : World) : Prop where
  ex : ∃ v1 w9, w9.ownsRow base 73 6 v1 (n + 1) (flatv Nde.cells xs ++ X.cells.toList) ∧ ((w5.alloc (.cells X.cells 73 (0, 0))).drew).grownBy w9 nv.ownBlock ∧ wx = w9.setCell ⟨fb, 0, none⟩ v1
theorem step_append_own1 {P : Program} {ops : Array Oper} {o : Oper} {a : Act} {w : World} {K : Act → World → Prop} {Q : Exit → Act → World → Prop} {E : Prop} (hgd : o.guard = none) (s x : Operand) (t : TypeId)
    (ho : o.op = .call { callee := .builtin .append, args := #[s, x], argTypes := #[t, t] })
    (base : Nat) (e : TypeId) (i : TypeInfo) (z : Value) (size bytes : Nat) (ht : P.underlying t = some (.slice e)) (hi : P.info? e = some i) (hz : i.zero = some z)
    (hsize : i.size = size) (hby : i.bytes = bytes) (hzs : z.cells.size = size) (hsz : 0 < size)
    (v : Value) (n : Nat) (xs : List Value) (hs : a.eval s = v) (hown : w.ownsRow base e size v n xs)
    (ad : Addr) (c : Nat) (news : List Value) (hx : a.eval x = .slice (some ad) 1 c) (hl : news.length = 1 * size) (hnews : ∀ j u, news[j]? = some u → w.cell? (ad.add j) = some u) (h1 : ∀ u ∈ news, u.oneCell' = true)
    (h63 : n + 1 ≤ maxLen) (hbytes : (n + 1) * bytes ≤ 140737488355328) (hbase : base ≤ w.heap.size)
    (h : ∀ g cap w', w'.ownsRow base e size (.slice (some ⟨g, 0, none⟩) (n + 1) cap) (n + 1) (xs ++ news) → w.grownBy w' v.ownBlock → K (a.put o.dst (.slice (some ⟨g, 0, none⟩) (n + 1) cap)) w') :
    if Region.wanted o (yielded ops a.tmps) = true then Oper.wp P o a w K Q else E := by
  have hw : Region.wanted o (yielded ops a.tmps) = true := by simp [Region.wanted, hgd]
  rw [if_pos hw]
  exact wp_append_own w s x t ho base e i z size bytes ht hi hz hsize hby hzs hsz v n xs hs hown ad 1 c news hx hl hnews h1 h63 hbytes hbase fun v' w' h2 h3 _ => by
    obtain ⟨g, cap, rfl⟩ := Joins.ownsRow_form h2 (Nat.succ_pos _)
    exact h g cap w' h2 h3

structure TwC (W2 : World) (tb : Bool) (tv : Value) (wx : World) : Prop where
  tv : tv = .bool tb
  wx : wx = W2
structure LkC (W1 : World) (c : Int) (b : Bool) (cv bv : Value) (wx : World) : Prop where
  cv : cv = .int .i64 c
  bv : bv = .bool b
  wx : wx = W1.drew
theorem owns_setT {w : World} {base size n b : Nat} {e T : TypeId} {v : Value} {xs : List Value} {o : Array Value} (h : w.ownsRow base e size v n xs) (hb : w.heap[b]? = some (.cells o T (0, 0))) (hT : T ≠ e) (off : Nat) (u : Value) : (w.setCell ⟨b, off, none⟩ u).ownsRow base e size v n xs := by
  obtain ⟨h1, h2⟩ := h
  refine ⟨h1, ?_⟩
  rcases h2 with h | ⟨g, cap, cur, hv, hg, hh, hr⟩
  · exact .inl h
  · have hne : g ≠ b := fun c => by rw [c, hb] at hh; simp at hh; exact hT hh.2
    exact .inr ⟨g, cap, cur, hv, hg, blk_set_other hne _ hh, hr⟩
theorem put_end {w wc w5 w9 : World} {fb mb base lo n : Nat} {nv v1 : Value} {xs : List Nde} {x : Nde} (hF : FlW wc fb mb base nv xs) (hn : n = xs.length) (hbf : lo ≤ fb) (hbm : lo ≤ mb) (hlo : lo ≤ base) (hg5 : wc.drew.grownBy w5 (some mb))
    (hm5 : w5.ownsMap Tryz.prog 9 (plainElem (H := Unit) Tryz.prog 3) mb (n + 1) ((mapD (xs.map Nde.name)).put (keyB x.name) (.lit (.int .i64 (n : Int)))))
    (hg9 : ((w5.alloc (.cells x.cells 73 (0, 0))).drew).grownBy w9 nv.ownBlock) (ho9 : w9.ownsRow base 73 6 v1 (n + 1) (flatv Nde.cells xs ++ x.cells.toList)) (h9 : w9.heap[fb]? = some (.cells #[nv, .map (some mb)] 67 (0, 0)))
    (hx : x.ok wc) (hp : PartsAt wc x) (hbs : base ≤ w.heap.size) (hlow : Below w.heap.size w wc) :
    FlW (w9.setCell ⟨fb, 0, none⟩ v1) fb mb base v1 (xs ++ [x]) ∧ PutK fb mb base lo w (w9.setCell ⟨fb, 0, none⟩ v1) := by
  have hs5 : wc.heap.size ≤ w5.heap.size := hg5.size
  have hs9 : w5.heap.size + 1 ≤ w9.heap.size := by
    have := hg9.size
    rw [show ((w5.alloc (.cells x.cells 73 (0, 0))).drew).heap.size = w5.heap.size + 1 from World.size_alloc _ _] at this
    exact this
  have hown : ∀ k, nv.ownBlock = some k → base ≤ k ∧ ∃ cur, wc.heap[k]? = some (.cells cur 73 (0, 0)) := fun k e => ⟨(hF.row.lt k e).1, owns_block hF.row e⟩
  have keep : ∀ (k : Nat) (o : Obj), wc.heap[k]? = some o → k ≠ mb → k ≠ fb → (k < base ∨ ∀ c fr, o ≠ .cells c 73 fr) → (w9.setCell ⟨fb, 0, none⟩ v1).heap[k]? = some o := fun k o hk h1 h2 h3 => by
    have hlt := blk_lt hk
    refine blk_set_other h2 _ ?_
    refine (hg9.block k (by show k < (w5.alloc _).heap.size; rw [World.size_alloc]; omega) (fun e => ?_)).trans (blk_old _ ((hg5.block k hlt (fun e => h1 (by cases e; rfl))).trans hk))
    obtain ⟨e1, cur, e2⟩ := hown k e.symm
    rcases h3 with h3 | h3
    · omega
    · rw [hk] at e2
      exact h3 _ _ (Option.some.inj e2)
  have hsz : wc.heap.size ≤ (w9.setCell ⟨fb, 0, none⟩ v1).heap.size := by
    have : (w9.setCell ⟨fb, 0, none⟩ v1).heap.size = w9.heap.size := by simp [World.setCell]
    omega
  have hpart : ∀ y : Nde, y.ok wc → PartsAt wc y → y.ok (w9.setCell ⟨fb, 0, none⟩ v1) ∧ PartsAt (w9.setCell ⟨fb, 0, none⟩ v1) y := fun y hy hyp => by
    have key : ∀ b off, y.po = some ⟨b, off, none⟩ → ∃ c, wc.heap[b]? = some (.cells c 9 (0, 0)) ∧ (w9.setCell ⟨fb, 0, none⟩ v1).heap[b]? = some (.cells c 9 (0, 0)) := fun b off e => by
      obtain ⟨c, hc⟩ := hyp b off e
      refine ⟨c, hc, keep b _ hc (fl_map_ne hF hc) (fun e => ?_) (.inr fun c' fr e => by injection e with e1 e2 e3; exact absurd e2 (by decide))⟩
      rw [e, hF.head] at hc
      simp at hc
    refine ⟨⟨strs_keep hy.parts hsz fun b off e _ => ?_, hy.ple⟩, fun b off e => ?_⟩
    · obtain ⟨c, h1, h2⟩ := key b off e
      rw [h1, h2]
    · obtain ⟨c, _, h2⟩ := key b off e
      exact ⟨c, h2⟩
  refine ⟨⟨by rw [blk_set h9]; rfl, ?_, ?_, fun y hy => ?_⟩, ?_, fun k o hk h1 h2 h3 => keep k o (blk_below hlow hk (blk_lt hk)) h1 h2 h3⟩
  · have := owns_setT ho9 h9 (by decide) 0 v1
    rw [flatv_append, flatv_one, List.length_append, ← hn]
    exact this
  · rw [List.map_append, List.length_append, ← hn]
    have hmp := ((hm5.alloc (.cells x.cells 73 (0, 0))).drew.kept hg9 (fun e => by
      obtain ⟨_, cur, e2⟩ := hown mb e.symm
      exact fl_map_ne hF e2 rfl)).setCell (a := ⟨fb, 0, none⟩) (fun e => fl_map_ne hF hF.head e.symm) v1
    rw [show List.map Nde.name [x] = [x.name] from rfl, mapD_snoc, List.length_map, ← hn]
    exact hmp
  · rcases List.mem_append.1 hy with h | h
    · exact hpart y (hF.ok y h).1 (hF.ok y h).2
    · have : y = x := by simpa using h
      subst this
      exact hpart y hx hp
  · have hle : base ≤ wc.heap.size := Nat.le_trans hbs hlow.size
    have hle' : lo ≤ wc.heap.size := Nat.le_trans hlo hle
    have b1 : Below lo w wc.drew := (hlow.mono (Nat.le_trans hlo hbs)).drew
    have b2 : Below lo w w5 := b1.grown hg5 hle' (fun k e => by cases e; exact hbm)
    have b3 : Below lo w ((w5.alloc (.cells x.cells 73 (0, 0))).drew) := (b2.alloc (Nat.le_trans hle' hs5) _).drew
    have b4 : Below lo w w9 := b3.grown hg9 (by
      show lo ≤ (w5.alloc (.cells x.cells 73 (0, 0))).heap.size
      rw [World.size_alloc]; omega) (fun k e => Nat.le_trans hlo (hF.row.lt k e).1)
    exact b4.setCell hbf _
set_option maxRecDepth 100000 in
set_option maxHeartbeats 6400000 in
theorem put_any (w : World) (fb mb base lo : Nat) (nv : Value) (xs : List Nde) (x : Nde) (hF : FlW w fb mb base nv xs) (hx : x.ok w) (hp : PartsAt w x) (hn : x.name.size ≤ maxLen) (hpl : x.pn ≤ 4294967296) (hbf : lo ≤ fb) (hbm : lo ≤ mb) (hlo : lo ≤ base) (hbase : base ≤ w.heap.size) :
    Calls Tryz.prog 30 #[.pointer (some ⟨fb, 0, none⟩), x.val] w fun e w' => ∃ nv', e = .returned (.int .i64 (putE (xs.map Nde.name) xs.length x.name x.parts)) ∧ FlW w' fb mb base nv' (if putE (xs.map Nde.name) xs.length x.name x.parts = 0 then xs ++ [x] else xs) ∧ PutK fb mb base lo w w' := by
  obtain ⟨i9, hi9, hz9, hz91, hz92⟩ := info_parts info9
  obtain ⟨nm, cp, po, pn, pc, ps⟩ := x
  obtain ⟨W1, hW1⟩ : ∃ W1, W1 = w.alloc (.cells (⟨nm, cp, po, pn, pc, ps⟩ : Nde).cells 73 (0, 0)) := ⟨_, rfl⟩
  have hb1 : Below w.heap.size w W1 := by rw [hW1]; exact (Below.refl _ _).alloc (Nat.le_refl _) _
  have hF1 := hF.below hb1
  have hx1 : W1.heap[w.heap.size]? = some (.cells (⟨nm, cp, po, pn, pc, ps⟩ : Nde).cells 73 (0, 0)) := by rw [hW1]; exact blk_new _ _
  have hF1d : FlW W1.drew fb mb base nv xs := hF1.below ((Below.refl _ _).drew)
  obtain ⟨c, hlk, hat⟩ := fl_look hF1d nm hn
  obtain ⟨b, hb⟩ : ∃ b, b = has (mapD (xs.map Nde.name)) (keyB nm) := ⟨_, rfl⟩
  rw [← hb] at hlk
  have f0 := blk_cell hF1.head 0
  have f1 := blk_cell hF1.head 1
  have y0 := blk_cell hx1 0
  have y5 := blk_cell hx1 5
  simp at f0 f1 y0 y5
  replace hF := Lib.hid hF; replace hx := Lib.hid hx; replace hp := Lib.hid hp; replace hb1 := Lib.hid hb1; replace hF1 := Lib.hid hF1; replace hx1 := Lib.hid hx1; replace hF1d := Lib.hid hF1d; replace hat := Lib.hid hat; replace hb := Lib.hid hb
  have hW1' := Lib.hid hW1
  clear hW1
  go_enter Tryz.func30, Tryz.ntmps30
  go_wp2_with fail
  rw [← hW1'.out]
  go_step3
  go_upto_region 1 with fail
  go_cut [5, 6] (fun cv bv wx => LkC W1 c b cv bv wx)
  case first =>
    go_region_with (fail)
    all_goals
      go_wp2_with fail
      go_meet
      exact ⟨rfl, rfl, rfl⟩
  case rest =>
    obtain ⟨rfl, rfl, rfl⟩ := hcut
    cases b with
    | true =>
      have hE : putE (xs.map Nde.name) xs.length nm ps = 51 := by unfold putE; rw [if_pos (by rw [memB_iff]; exact (mapD_has _ _).1 hb.out.symm)]
      have hlow : Below w.heap.size w W1.drew := hb1.out.drew
      have hbs : base ≤ w.heap.size := hbase
      replace hE := Lib.hid hE; replace hlow := Lib.hid hlow; replace hbs := Lib.hid hbs
      go_wp2
      try rw [Exit.noGoto_ret]
      go_ret
      exact ⟨nv, by rw [hE.out]; rfl, by rw [hE.out]; exact hF1d.out, PutK.of_low hlow.out (Nat.le_trans hlo hbs.out)⟩
    | false =>
      have hnm : ¬ memB (xs.map Nde.name) nm = true := fun h => by
        have := (mapD_has _ _).2 (memB_iff.1 h)
        rw [← hb.out] at this; cases this
      obtain ⟨W2, hW2⟩ : ∃ W2, W2 = W1.drew := ⟨_, rfl⟩
      have hF2 : FlW W2 fb mb base nv xs := by rw [hW2]; exact hF1d.out
      have hx2 : W2.heap[w.heap.size]? = some (.cells (⟨nm, cp, po, pn, pc, ps⟩ : Nde).cells 73 (0, 0)) := by rw [hW2]; exact hx1.out
      have hps : StrsAt W2 po pn ps := by rw [hW2]; exact (hx.out.low (hb1.out.drew)).parts
      clear f0 f1 y0 y5 hlk
      have f0 := blk_cell hF2.head 0
      have f1 := blk_cell hF2.head 1
      have y0 := blk_cell hx2 0
      have y5 := blk_cell hx2 5
      simp at f0 f1 y0 y5
      obtain ⟨tb, htb⟩ : ∃ tb, tb = twiceL ps := ⟨_, rfl⟩
      have hpn := hps.len
      have hple : pn ≤ pc := hx.out.ple
      rw [← hW2]
      replace hnm := Lib.hid hnm; replace hF2 := Lib.hid hF2; replace hx2 := Lib.hid hx2; replace hps := Lib.hid hps; replace hW2 := Lib.hid hW2; replace htb := Lib.hid htb; replace hpn := Lib.hid hpn
      go_upto_block 0 with fail
      go_step3
      go_upto_block 0 with fail
      go_cut [7, 8, 9, 11] from 26 to 44 (fun tv _ _ _ wx => TwC W2 tb tv wx)
      case first =>
        go_wp2
        go_loopw [7, 8, 9, 11, 26] (fun tv _ _ _ i wr => ∃ k : Nat, tv = .bool false ∧ i = .int .i64 k ∧ k ≤ pn ∧ wr = W2 ∧ Hid (¬ DupTo ps k)) (fun _ _ _ _ i _ => pn - (intOf i).toNat)
        case atStart => exact ⟨0, rfl, rfl, Nat.zero_le _, rfl, fun ⟨i, j, s, h1, h2, _⟩ => absurd h2 (Nat.not_lt_zero _)⟩
        case round =>
          obtain ⟨k, rfl, rfl, hk, rfl, hD⟩ := hrel
          by_cases hk1 : k < pn
          · have hc1 : (k : Int) < pn := by omega
            have hk0 : (0 : Int) ≤ (k : Int) := by omega
            obtain ⟨p, hpk⟩ := hps.out.get hk1
            obtain ⟨b', off', rfl, hb', hcp⟩ := hps.out.cell k p hpk
            have hsl := fun w => slice_upto_g Tryz.underlying71 hi9 ⟨b', off', none⟩ pn pc k k rfl (by omega) w
            replace hpk := Lib.hid hpk
            go_wp2
            go_loopw [7, 11, 36] (fun tv _ i wq => ∃ j : Nat, tv = .bool false ∧ i = .int .i64 j ∧ j ≤ k ∧ wq = wr ∧ Hid (∀ j', j' < j → ps[j']? ≠ some p)) (fun _ _ i _ => k - (intOf i).toNat)
            case atStart => exact ⟨0, rfl, rfl, Nat.zero_le _, rfl, fun j' h => absurd h (Nat.not_lt_zero _)⟩
            case round =>
              obtain ⟨j, rfl, rfl, hj, rfl, hN⟩ := hrel
              by_cases hj1 : j < k
              · have hc2 : (j : Int) < k := by omega
                have hj0 : (0 : Int) ≤ (j : Int) := by omega
                obtain ⟨q, hqj⟩ := hps.out.get (i := j) (by omega)
                obtain ⟨b2, off2, e2, hb2, hcq⟩ := hps.out.cell j q hqj
                cases e2
                by_cases hpq : p = q
                · have d : (p.toList == q.toList) = true := by rw [hpq]; simp
                  have ht : tb = true := by rw [htb.out, twiceL_iff]; exact ⟨k, j, p, hj1, by rw [hpn.out]; exact hk1, hpk.out, by rw [hpq]; exact hqj⟩
                  replace hqj := Lib.hid hqj; replace hpq := Lib.hid hpq; replace ht := Lib.hid ht
                  go_wp2
                  go_meet
                  case rel => exact ⟨by rw [ht.out], rfl⟩
                · have d : (p.toList == q.toList) = false := by
                    simp only [beq_eq_false_iff_ne]
                    intro e
                    rw [Lib.toList_data, Lib.toList_data] at e
                    exact hpq (toL_inj e)
                  have hN2 : ∀ j', j' < j + 1 → ps[j']? ≠ some p := fun j' h e => by
                    by_cases c : j' = j
                    · subst c; rw [hqj] at e; exact hpq (Option.some.inj e).symm
                    · exact hN.out j' (by omega) e
                  replace hqj := Lib.hid hqj; replace hpq := Lib.hid hpq; replace hN2 := Lib.hid hN2
                  go_wp2
                  go_roundw
                  case rel => exact ⟨j + 1, rfl, by go_num, by omega, trivial, hN2.out⟩
                  case measure => simp [intOf]; omega
              · have hc2 : ¬ (j : Int) < k := by omega
                have hD2 : ¬ DupTo ps (k + 1) := fun ⟨i, j', s, h1, h2, h3, h4⟩ => by
                  by_cases c : i = k
                  · subst c
                    rw [hpk.out] at h3
                    exact hN.out j' (by omega) (by rw [h4, ← h3])
                  · exact hD.out ⟨i, j', s, h1, by omega, h3, h4⟩
                replace hD2 := Lib.hid hD2
                go_wp2
                go_roundw
                case rel => exact ⟨k + 1, rfl, by go_num, by omega, trivial, hD2.out⟩
                case measure => simp [intOf]; omega
          · have hc1 : ¬ (k : Int) < pn := by omega
            have hkp : k = pn := by omega
            have ht : tb = false := by
              rw [htb.out, Bool.eq_false_iff]
              intro c
              exact hD.out (by rw [hkp, ← hpn.out]; exact (twiceL_iff ps).1 c)
            replace ht := Lib.hid ht; replace hkp := Lib.hid hkp
            go_wp2
            go_meet
            case rel => exact ⟨by rw [ht.out], rfl⟩
      case rest =>
        obtain ⟨rfl, rfl⟩ := hcut
        have hlow : Below w.heap.size w wc := by rw [hW2.out]; exact hb1.out.drew
        have hbs : base ≤ w.heap.size := hbase
        cases tb with
        | true =>
          have hE : putE (xs.map Nde.name) xs.length nm ps = 51 := by unfold putE; rw [if_neg hnm.out, if_pos htb.out.symm]
          replace hE := Lib.hid hE; replace hlow := Lib.hid hlow; replace hbs := Lib.hid hbs
          go_wp2
          try rw [Exit.noGoto_ret]
          go_ret
          exact ⟨nv, by rw [hE.out]; rfl, by rw [hE.out]; exact hF2.out, PutK.of_low hlow.out (Nat.le_trans hlo hbs.out)⟩
        | false =>
          have hln : ∀ ty w, (Builtin.len_ #[32] ty #[nv]).run Tryz.prog w = .ok (.int .i64 (xs.length : Int)) w := fun ty w => by
            rcases Joins.ownsRow_forms hF2.out.row with ⟨rfl, h0⟩ | ⟨g, cap, rfl⟩
            · rw [h0]; simp [go_sem, Tryz.underlying32]
            · simp [go_sem, Tryz.underlying32]
          obtain ⟨n, hnl⟩ : ∃ n, n = xs.length := ⟨_, rfl⟩
          rw [← hnl] at hln
          replace hnl := Lib.hid hnl; replace hlow := Lib.hid hlow; replace hbs := Lib.hid hbs
          by_cases q1 : 16 ≤ n
          · have d1 : decide ((16 : Int) ≤ n) = true := decide_eq_true (by omega)
            have d1' : decide (16 ≤ n) = true := decide_eq_true q1
            have hE : putE (xs.map Nde.name) xs.length nm ps = 2 := by
              unfold putE; rw [if_neg hnm.out, if_neg (by rw [← htb.out]; simp), if_pos (.inl (by rw [← hnl.out]; exact q1))]
            replace hE := Lib.hid hE
            go_wp2
            try rw [Exit.noGoto_ret]
            go_ret
            exact ⟨nv, by rw [hE.out]; rfl, by rw [hE.out]; exact hF2.out, PutK.of_low hlow.out (Nat.le_trans hlo hbs.out)⟩
          have d1 : decide ((16 : Int) ≤ n) = false := decide_eq_false (by omega)
          have d1' : decide (16 ≤ n) = false := decide_eq_false q1
          by_cases q2 : 8 < pn
          · have d2 : decide ((8 : Int) < pn) = true := decide_eq_true (by omega)
            have d2' : decide (8 < pn) = true := decide_eq_true q2
            have hE : putE (xs.map Nde.name) xs.length nm ps = 2 := by
              unfold putE; rw [if_neg hnm.out, if_neg (by rw [← htb.out]; simp), if_pos (.inr (by rw [hpn.out]; exact q2))]
            replace hE := Lib.hid hE
            go_wp2
            try rw [Exit.noGoto_ret]
            go_ret
            exact ⟨nv, by rw [hE.out]; rfl, by rw [hE.out]; exact hF2.out, PutK.of_low hlow.out (Nat.le_trans hlo hbs.out)⟩
          have d2 : decide ((8 : Int) < pn) = false := decide_eq_false (by omega)
          have d2' : decide (8 < pn) = false := decide_eq_false q2
          have hE : putE (xs.map Nde.name) xs.length nm ps = 0 := by
            unfold putE; rw [if_neg hnm.out, if_neg (by rw [← htb.out]; simp), if_neg (by rw [← hnl.out, hpn.out]; omega)]
          replace hE := Lib.hid hE
          have hown : wc.drew.ownsMap Tryz.prog 9 (plainElem (H := Unit) Tryz.prog 3) mb n (mapD (xs.map Nde.name)) := by rw [hnl.out]; exact hF2.out.map
          have hnlt : n < maxLen := by have : maxLen = 9223372036854775807 := rfl; omega
          have hkey : keyOf Tryz.prog 9 (.string nm) = some (keyB nm) := WideMaps.keyOf_string_mk Tryz.underlying9 hn
          have hwf : (Lit.int .i64 (n : Int)).wf = true := WalkArith.wf_i64 (by omega)
          replace hown := Lib.hid hown; replace hnlt := Lib.hid hnlt; replace hkey := Lib.hid hkey; replace hwf := Lib.hid hwf
          go_upto_region 19 with fail
          go_still_tail 11, (by kernel_rfl)
          change wpList _ _ _ _ _ wc.drew
          go_upto_region 20 with (at_mapUpdate; refine wpList_mapUpdate_own _ rfl _ _ _ 65 rfl 9 3 (string_keyed Tryz.underlying9) Tryz.underlying65 _ mb n _ rfl hown.out hnlt.out _ _ (keyB nm) rfl rfl hkey.out _ [] (plainElem_int Tryz.underlying3 hwf.out) ?_; intro w5 hown5 hgrow5; replace hown5 := Lib.hid hown5; replace hgrow5 := Lib.hid hgrow5)
          have k5 : ∀ (k : Nat) (c : Array Value) (T : TypeId) (fr : Nat × Nat), wc.heap[k]? = some (.cells c T fr) → w5.heap[k]? = some (.cells c T fr) := fun k c T fr h =>
            (hgrow5.out.block k (blk_lt h) (fun e => fl_map_ne hF2.out h (by cases e; rfl))).trans h
          have h5 := k5 _ _ _ _ hF2.out.head
          have hx5 := k5 _ _ _ _ hx2.out
          have hrow5 : w5.ownsRow base 73 6 nv n (flatv Nde.cells xs) := by
            refine ⟨by rw [hnl.out]; exact hF2.out.row.1, ?_⟩
            rcases hF2.out.row.2 with ⟨e1, e2⟩ | ⟨g, cap, cur, hv, hg, hh, hr⟩
            · exact .inl ⟨e1, by rw [hnl.out]; exact e2⟩
            · exact .inr ⟨g, cap, cur, by rw [hnl.out]; exact hv, hg, k5 _ _ _ _ hh, by rw [hnl.out]; exact hr⟩
          have hs5 := hgrow5.out.size
          clear f0 f1 y0 y5
          have f0 := blk_cell h5 0
          have y0 := blk_cell hx5 0
          have y1 := blk_cell hx5 1
          have y2 := blk_cell hx5 2
          have y3 := blk_cell hx5 3
          have y4 := blk_cell hx5 4
          have y5 := blk_cell hx5 5
          simp at f0 y0 y1 y2 y3 y4 y5
          have lf5 := blk_lt h5
          have lx5 := blk_lt hx5
          obtain ⟨i48, hi48, hz48, hz481, hz482⟩ := info_parts info48
          have hownA : ((w5.alloc (.cells (⟨nm, cp, po, pn, pc, ps⟩ : Nde).cells 73 (0, 0))).drew).ownsRow base 73 6 nv n (flatv Nde.cells xs) := hrow5.alloc (.cells (⟨nm, cp, po, pn, pc, ps⟩ : Nde).cells 73 (0, 0))
          have hnews : ∀ j u, (⟨nm, cp, po, pn, pc, ps⟩ : Nde).cells.toList[j]? = some u → ((w5.alloc (.cells (⟨nm, cp, po, pn, pc, ps⟩ : Nde).cells 73 (0, 0))).drew).cell? ((⟨w5.heap.size, 0, none⟩ : Addr).add j) = some u := nde_new w5 (⟨nm, cp, po, pn, pc, ps⟩ : Nde)
          have hone := nde_one (⟨nm, cp, po, pn, pc, ps⟩ : Nde)
          have h63 := maxLen_ge (n := n) (by omega)
          have hby : (n + 1) * 72 ≤ 140737488355328 := by omega
          have hbas : base ≤ ((w5.alloc (.cells (⟨nm, cp, po, pn, pc, ps⟩ : Nde).cells 73 (0, 0))).drew).heap.size := by
            have := hbs.out; have := hlow.out.size; have : wc.drew.heap.size = wc.heap.size := rfl
            show base ≤ (w5.alloc (.cells (⟨nm, cp, po, pn, pc, ps⟩ : Nde).cells 73 (0, 0))).heap.size
            rw [World.size_alloc]; omega
          have hfree : ∀ w9 : World, ((w5.alloc (.cells (⟨nm, cp, po, pn, pc, ps⟩ : Nde).cells 73 (0, 0))).drew).grownBy w9 nv.ownBlock → w9.heap[fb]? = some (.cells #[nv, .map (some mb)] 67 (0, 0)) := fun w9 hg => by
            refine (hg.block fb (by have := blk_lt h5; show fb < (w5.alloc (.cells (⟨nm, cp, po, pn, pc, ps⟩ : Nde).cells 73 (0, 0))).heap.size; rw [World.size_alloc]; omega) (fun e => ?_)).trans (blk_old (.cells (⟨nm, cp, po, pn, pc, ps⟩ : Nde).cells 73 (0, 0)) h5)
            obtain ⟨cur, hc⟩ := owns_block hrow5 e.symm
            rw [h5] at hc; simp at hc
          replace h5 := Lib.hid h5; replace hx5 := Lib.hid hx5; replace hrow5 := Lib.hid hrow5; replace hs5 := Lib.hid hs5; replace hownA := Lib.hid hownA; replace hnews := Lib.hid hnews; replace hone := Lib.hid hone; replace h63 := Lib.hid h63; replace hby := Lib.hid hby; replace hbas := Lib.hid hbas; replace hfree := Lib.hid hfree; replace k5 := Lib.hid k5
          simp only [Act.put]
          go_cut [] (fun wx => PtC base fb w5 (⟨nm, cp, po, pn, pc, ps⟩ : Nde) nv n xs wx)
          case first =>
            go_region_law
              (first
                | (refine step_append_own1 (by rfl) _ _ _ (by rfl) base 73 i48 _ 6 72 Tryz.underlying32 hi48 hz48 hz481 hz482 rfl six_pos nv n _ (by rfl) hownA.out ⟨w5.heap.size, 0, none⟩ 1 (⟨nm, cp, po, pn, pc, ps⟩ : Nde).cells.toList (by rfl) (by rfl) hnews.out hone.out h63.out hby.out hbas.out ?_
                   intro g9 cap9 w9 hown9 hgrow9
                   have q9 := hfree.out w9 hgrow9
                   have f9 := blk_cell q9 0
                   have z9 := blk_free q9 0
                   simp at f9
                   have l9 := blk_lt q9
                   replace q9 := Lib.hid q9; replace hown9 := Lib.hid hown9; replace hgrow9 := Lib.hid hgrow9))
            all_goals
              go_wp2_with fail
              go_meet
              exact ⟨_, w9, hown9.out, hgrow9.out, rfl⟩
          case rest =>
            obtain ⟨v1, w9, hown9, hgrow9, rfl⟩ := hcut.ex
            clear hcut
            have hFx := put_end hF2.out hnl.out hbf hbm hlo hgrow5.out hown5.out hgrow9 hown9 (hfree.out w9 hgrow9) (show Nde.ok wc ⟨nm, cp, po, pn, pc, ps⟩ from ⟨hps.out, hx.out.ple⟩) (fun b off e => by
              obtain ⟨c, hc⟩ := hp.out b off e
              exact ⟨c, blk_below hlow.out hc (blk_lt hc)⟩) hbs.out hlow.out
            have hF9 := hFx.1
            have hK9 := hFx.2
            replace hF9 := Lib.hid hF9; replace hK9 := Lib.hid hK9; replace hown9 := Lib.hid hown9; replace hgrow9 := Lib.hid hgrow9; replace hFx := Lib.hid hFx
            go_wp2
            try rw [Exit.noGoto_ret]
            go_ret
            all_goals first
              | exact ⟨rfl, ⟨v1, hF9.out⟩, hK9.out⟩
              | exact absurd hE.out (by assumption)
end Go.Proofs.YteoihdkaoipocaaGreatDoor

/- A range over a function that keeps a cell of its own: the statement's law, for a body that may write what lay ahead of the loop. Conditions: the iterator's contract (SeqBox), the caller's relation. -/
namespace Go.Proofs.YteoihdkaoipocaaGreatDoor
open Go.RowKit

/-- a relation that stands when one block turns, and new ones come -/
def AbidesAt {β : Type} (b : Nat) (J : β → World → Prop) : Prop := ∀ s W W', J s W → W.grownBy W' (some b) → J s W'
/-- an iterator that turns one block of its own between the rounds -/
def SeqBox {α : Type} (F : Fence) (n : Nat) (P : Program) (g : Nat) (lb : Array Value) (encs : α → Array Value) (b : Nat) (xs : List α) (w0 : World) : Prop :=
  ∀ (l : Nat) (J Jx : List α → World → Prop) (W : World), Below w0.heap.size w0 W → AbidesAt b J → AbidesAt b Jx →
    (∀ pre x W1, J pre W1 → (pre ++ [x]) <+: xs → YieldAt F (n - 1) P l (encs x) W1 fun e W' =>
      (e = .returned (.bool true) ∧ J (pre ++ [x]) W' ∧ W'.heap[b]? = W1.heap[b]? ∧ W'.heap[0]? = W1.heap[0]?) ∨ (e = .returned (.bool false) ∧ Jx (pre ++ [x]) W')) →
    J [] W →
    CallsIn F n P g (#[.func (.yield l) #[] #[]] ++ lb) W fun e W' => (∃ v, e = .returned v) ∧ (J xs W' ∨ (∃ pre x, (pre ++ [x]) <+: xs ∧ Jx (pre ++ [x]) W'))

variable {F : Fence} {n : Nat} {P : Program}

theorem wpIn_rangeFunc_box {α : Type} {g : Operand} {ps : Array Tmp} {assign body : Code} {Q : Exit → Act → World → Prop} {a : Act} {w : World}
    (hro : F.round = none) (h1 : 1 ≤ n) {gf : Nat} {lb : Array Value} (hg : a.eval g = .func (.func gf) #[] lb) (hFg : F.fn gf) (eg : ∀ args w, (callFunc gf args).run P w = .ok (.enter gf args) w)
    {encs : α → Array Value} {b : Nat} {xs : List α} {w0 : World} (hseq : SeqBox F (n - 1) P gf lb encs b xs w0) (hbw : b < w.heap.size)
    (hb0 : Below w0.heap.size w0 w) (hps : ∀ x, (encs x).size = ps.size)
    (I : List α → World → Prop) (Ix : Code → List α → World → Prop) (hI : OwnFrom w.heap.size I) (hIx : ∀ c, OwnFrom w.heap.size (Ix c)) (hIb : AbidesAt b I) (hIxb : ∀ c, AbidesAt b (Ix c)) (h0 : I [] w) (a₁ : α → Act)
    (hassign : ∀ (l : Nat) (x : α) (W : World) (K : Act → World → Prop), K (a₁ x) W →
      assign.wpIn (F.inRound l) (n - 1 - 1) P (Exit.then K (fun _ _ _ => False)) { tmps := (ps.zip (encs x)).foldl (fun t (p, v) => t.setIfInBounds p v) a.tmps, defers := [] } W)
    (hbody : ∀ (l : Nat) (pre : List α) (x : α) (W : World), I pre W → (pre ++ [x]) <+: xs → body.wpIn (F.inRound l) (n - 1 - 1) P (ownPostG w.heap.size (fun W W' => W'.heap[b]? = W.heap[b]? ∧ W'.heap[0]? = W.heap[0]?) I Ix (pre ++ [x]) W) (a₁ x) W)
    (hdone : ∀ (D : Nat) (W : World), w.heap.size ≤ D → I xs W → W.heap[D]? = some (.deferred (some [])) → Q .normal { a with defers := { target := .collected D, args := #[] } :: a.defers } W)
    (hstop : ∀ (D : Nat) (c : Code) (pre : List α) (x : α) (W : World), w.heap.size ≤ D → (pre ++ [x]) <+: xs → Ix c (pre ++ [x]) W → W.heap[D]? = some (.deferred (some [])) → c.wpIn F n P Q { a with defers := { target := .collected D, args := #[] } :: a.defers } W) :
    (Code.rangeFunc g ps assign body).wpIn F n P Q a w := by
  have hKt : ∀ {A B C : World}, (B.heap[b]? = A.heap[b]? ∧ B.heap[0]? = A.heap[0]?) → (C.heap[b]? = B.heap[b]? ∧ C.heap[0]? = B.heap[0]?) → (C.heap[b]? = A.heap[b]? ∧ C.heap[0]? = A.heap[0]?) := fun h k => ⟨k.1.trans h.1, k.2.trans h.2⟩
  have hKb : ∀ (W : World) (l : Nat) (o' : Obj), w.heap.size ≤ l → ((W.putObj l o').heap[b]? = W.heap[b]? ∧ (W.putObj l o').heap[0]? = W.heap[0]?) := fun W l o' hl => ⟨World.putObj_heap_other (by omega), World.putObj_heap_other (by omega)⟩
  refine wpIn_rangeFunc ?_
  intro fn hfn
  rw [hro]
  obtain ⟨rec, hrec⟩ : ∃ rec : LoopState → Option Code → Loop, rec = fun st pe => { state := st, pending := pe, fn, tmps := a.tmps, params := ps, assign, body, defers := w.heap.size } := ⟨_, rfl⟩
  obtain ⟨W1, hW1⟩ : ∃ W1, (w.alloc (.deferred (some []))).alloc (.loop (rec .ready none)) = W1 := ⟨_, rfl⟩
  have hL1 : W1.heap[w.heap.size + 1]? = some (.loop (rec .ready none)) := by
    rw [← hW1]; have := World.alloc_heap_new (w.alloc (.deferred (some []))) (.loop (rec .ready none)); rwa [World.size_alloc] at this
  have hK1 : W1.heap[w.heap.size]? = some (.deferred (some [])) := by
    rw [← hW1]; exact (Below.heap_alloc _ _ _ (by simp)).trans (World.alloc_heap_new w _)
  have hI1 : I [] W1 := by rw [← hW1]; exact hI.alloc _ (hI.alloc _ h0)
  have hb1 : Below w0.heap.size w0 W1 := by
    rw [← hW1]; exact hb0.trans ((((Below.refl _ w).alloc (Nat.le_refl _) _).alloc (by simp) _).mono hb0.size)
  have keep : ∀ {A B : World} {k : Nat} {o : Obj}, A.heap[k]? = some o → A.grownBy B (some b) → w.heap.size ≤ k → B.heap[k]? = some o := fun hk hg' hle =>
    (hg'.block _ (Array.getElem?_eq_some_iff.1 hk).1 (fun e => by cases e; omega)).trans hk
  refine ⟨w.heap.size + 1, [{ target := .collected w.heap.size, args := #[] }], W1, { target := .fn (.func gf) lb, args := #[.func (.yield (w.heap.size + 1)) #[] #[]] }, W1, gf,
    #[.func (.yield (w.heap.size + 1)) #[] #[]] ++ lb, W1, ?_, ?_, ?_, ?_, fun _ => h1, ?_⟩
  · rw [← hW1, hrec]; exact run_enterLoop_outer _ _ _ _ _
  · simp only [resolve, hg]
    simp [go_sem]
  · intro f' hf'; simp [Target.leads] at hf'; subst hf'; exact hFg
  · simp [invoke, go_sem, eg]
  · refine (hseq (w.heap.size + 1)
      (fun pre W => I pre W ∧ W.heap[w.heap.size + 1]? = some (.loop (rec .ready none)) ∧ W.heap[w.heap.size]? = some (.deferred (some [])))
      (fun pre W => ∃ c, Ix c pre W ∧ W.heap[w.heap.size + 1]? = some (.loop (rec .done (some c))) ∧ W.heap[w.heap.size]? = some (.deferred (some [])))
      W1 hb1
      (fun s A B hs hg' => ⟨hIb s A B hs.1 hg', keep hs.2.1 hg' (by omega), keep hs.2.2 hg' (Nat.le_refl _)⟩)
      (fun s A B hs hg' => by
        obtain ⟨c, hc, hl, hk⟩ := hs
        exact ⟨c, hIxb c s A B hc hg', keep hl hg' (by omega), keep hk hg' (Nat.le_refl _)⟩)
      ?_ ⟨hI1, hL1, hK1⟩).mono ?_
    · rintro pre x W ⟨hi, hl, hk⟩ hlen
      have hlt : w.heap.size + 1 < W.heap.size := (Array.getElem?_eq_some_iff.1 hl).1
      have hy := run_yield (P := P) (args := encs x) hl (by rw [hrec]; exact hps x)
      rw [hrec] at hy
      refine ⟨fn, _, assign, body, hy, roundIn_of_wpIn hfn (hassign _ x W _ ⟨_, run_beginRound hl (by rw [hrec]), ?_⟩)⟩
      have hl2 : (W.putObj (w.heap.size + 1) (.loop { rec .ready none with state := .busy })).heap[w.heap.size + 1]? = some (.loop { rec .ready none with state := .busy }) := World.putObj_heap_same hlt
      have hk2 : (W.putObj (w.heap.size + 1) (.loop { rec .ready none with state := .busy })).heap[w.heap.size]? = some (.deferred (some [])) := (World.putObj_heap_other (by omega)).trans hk
      have hw2 := hKb W (w.heap.size + 1) (.loop { rec .ready none with state := .busy }) (by omega)
      refine wpIn_mono (hbody _ pre x _ (hI.putObj _ hi (by omega) hl rfl) hlen) ?_
      have fin : ∀ (jump : Option Code) (W3 : World), KeepsFrom w.heap.size (W.putObj (w.heap.size + 1) (.loop { rec .ready none with state := .busy })) W3 →
          (Instr.endRound (w.heap.size + 1) jump).run P W3 = .ok (.bool jump.isNone) (W3.putObj (w.heap.size + 1) (.loop (rec (if jump.isNone then .ready else .done) jump))) ∧
          W3.heap[w.heap.size + 1]? = some (.loop { rec .ready none with state := .busy }) ∧
          (W3.putObj (w.heap.size + 1) (.loop (rec (if jump.isNone then .ready else .done) jump))).heap[w.heap.size + 1]? = some (.loop (rec (if jump.isNone then .ready else .done) jump)) ∧
          (W3.putObj (w.heap.size + 1) (.loop (rec (if jump.isNone then .ready else .done) jump))).heap[w.heap.size]? = some (.deferred (some [])) := fun jump W3 hk3 => by
        have hl3 := hk3.same _ _ (by omega) hl2 rfl
        have := run_endRound (P := P) jump hl3
        rw [hrec] at this ⊢
        exact ⟨this, by rw [hrec] at hl3; exact hl3, World.putObj_heap_same (Array.getElem?_eq_some_iff.1 hl3).1, (World.putObj_heap_other (by omega)).trans (hk3.same _ _ (Nat.le_refl _) hk2 rfl)⟩
      rintro e a3 W3 hp
      cases e with
      | normal =>
        obtain ⟨hk3, hkp3, hi3⟩ := hp
        obtain ⟨hr, hl3, hl4, hk4⟩ := fin none W3 hk3
        exact ⟨_, _, hr, .inl ⟨rfl, ⟨hI.putObj _ hi3 (by omega) hl3 rfl, hl4, hk4⟩, hKt (hKt hw2 hkp3) (hKb _ _ _ (by omega))⟩⟩
      | ret =>
        obtain ⟨hk3, hi3⟩ := hp
        obtain ⟨hr, hl3, hl4, hk4⟩ := fin (some .ret) W3 hk3
        exact ⟨_, _, hr, .inr ⟨rfl, .ret, (hIx _).putObj _ hi3 (by omega) hl3 rfl, hl4, hk4⟩⟩
      | exit id =>
        obtain ⟨hk3, hi3⟩ := hp
        obtain ⟨hr, hl3, hl4, hk4⟩ := fin (some (.exit id)) W3 hk3
        exact ⟨_, _, hr, .inr ⟨rfl, .exit id, (hIx _).putObj _ hi3 (by omega) hl3 rfl, hl4, hk4⟩⟩
      | goto t =>
        obtain ⟨hk3, hi3⟩ := hp
        obtain ⟨hr, hl3, hl4, hk4⟩ := fin (some (.goto t)) W3 hk3
        exact ⟨_, _, hr, .inr ⟨rfl, .goto t, (hIx _).putObj _ hi3 (by omega) hl3 rfl, hl4, hk4⟩⟩
      | panic ch => exact hp.elim
      | outgrown => exact hp.elim
    · rintro e W2 ⟨⟨v, rfl⟩, (⟨hi, hl, hk⟩ | ⟨pre, x, hSp, c, hi, hl, hk⟩)⟩
      · exact ⟨none, _, by have := run_endLoop (P := P) hl (by rw [hrec]; simp); rw [hrec] at this; exact this, hdone _ _ (Nat.le_refl _) (hI.putObj _ hi (by omega) hl rfl) ((World.putObj_heap_other (by omega)).trans hk)⟩
      · exact ⟨some c, _, by have := run_endLoop (P := P) hl (by rw [hrec]; simp); rw [hrec] at this; exact this, hstop _ c pre x _ (Nat.le_refl _) hSp ((hIx c).putObj _ hi (by omega) hl rfl) ((World.putObj_heap_other (by omega)).trans hk)⟩
end Go.Proofs.YteoihdkaoipocaaGreatDoor

/- fleet.lines: the lines of a text that say something, with their numbers: the iterator's contract. -/
namespace Go.Proofs.YteoihdkaoipocaaGreatDoor
open Go.RowKit Go.Shelf
attribute [local go_sem] Oper.semAt_some

/-- does a line say something? -/
def saysB (l : List UInt8) : Bool := match l with | [] => false | c :: _ => decide (c ≠ 35)
/-- the lines that say something, numbered behind n -/
def said : Nat → List (List UInt8) → List (Int × ByteArray)
  | _, [] => []
  | n, p :: ps => if saysB p = true then (((n : Int) + 1), ofL p) :: said (n + 1) ps else said (n + 1) ps
def linesOf (s : ByteArray) : List (Int × ByteArray) := said 0 (cutAll 10 s.data.toList)
abbrev encL (x : Int × ByteArray) : Array Value := #[.int .i64 x.1, .string x.2]
theorem said_nil (n : Nat) : said n (cutAll 10 []) = [] := rfl

structure LiW (W0 : World) (Bt : Nat) (rest : List UInt8) (W : World) : Prop where
  box : W.heap[Bt]? = some (.cells #[.string (ofL rest)] 9 (0, 0))
  mx : Mx W
theorem Mx.of_blk {w w' : World} (h : Mx w) (hb : w'.heap[0]? = w.heap[0]?) : Mx w' := by
  obtain ⟨m, h⟩ := h
  exact ⟨m, (World.cell?_of_block (a := ⟨0, 0, none⟩) (w := w) hb).trans h⟩
theorem grown_drewN (w : World) (n : Nat) (row : Option Nat) : w.grownBy (w.drewN n) row := ⟨rfl, rfl, rfl, Nat.le_refl _, fun _ _ _ => rfl⟩
theorem grown_setCell (w : World) (b o : Nat) (v : Value) : w.grownBy (w.setCell ⟨b, o, none⟩ v) (some b) :=
  ⟨rfl, rfl, rfl, by simp [World.setCell], fun k _ hk => Below.heap_setCell _ _ _ _ (fun e => hk (by rw [e]))⟩

theorem ofL_emp (l : List UInt8) : (ofL l).toList.isEmpty = l.isEmpty := by rw [Lib.toList_data, ofL_toL]
theorem liw_set {w0 w1 : World} {Bt : Nat} {rest r : List UInt8} (h : LiW w0 Bt rest w1) (hB : 0 < Bt) : LiW w0 Bt r (w1.setCell ⟨Bt, 0, none⟩ (.string (ofL r))) :=
  ⟨by rw [blk_set h.box]; rfl, h.mx.of_blk (Below.heap_setCell _ _ _ _ (by simp; omega))⟩
set_option maxRecDepth 100000 in
set_option maxHeartbeats 6400000 in
theorem lines_seq (n : Nat) (hn : 3 ≤ n) (Bt : Nat) (s : ByteArray) (w0 : World) (hs : s.size ≤ 4294967200) (hbox : w0.heap[Bt]? = some (.cells #[.string s] 9 (0, 0))) (hmx : Mx w0) (hBt : 0 < Bt) :
    SeqBox Fence.wide n Tryz.prog 66 #[.pointer (some ⟨Bt, 0, none⟩)] encL Bt (linesOf s) w0 := by
  intro l J Jx W hbW hJ hJx hY h0
  have hL0 : LiW w0 Bt s.data.toList W := ⟨blk_below hbW hbox (blk_lt hbox), hmx.low hbW⟩
  clear hbox hmx hbW
  replace hJ := Lib.hid hJ; replace hJx := Lib.hid hJx; replace hL0 := Lib.hid hL0
  have hY' := Lib.hid hY
  clear hY
  have h0' := Lib.hid h0
  clear h0
  refine callsIn_of_wp Tryz.func66 rfl trivial ?_ rfl
  simp only [Tryz.ntmps66, List.size_toArray, List.length_cons, List.length_nil, Nat.reduceAdd, Nat.reduceSub, Array.replicate_succ, Array.replicate_zero, List.push_toArray, List.append_toArray, List.nil_append, List.cons_append]
  gi_wp2
  gi_loopw [3, 4, 5, 6] (fun i _ _ _ wr => ∃ (k : Nat) (done : List (Int × ByteArray)) (rest : List UInt8), i = .int .i64 k ∧ k + rest.length ≤ s.size ∧ Hid (linesOf s = done ++ said k (cutAll 10 rest)) ∧ Hid (LiW w0 Bt rest wr) ∧ Hid (J done wr)) (fun i _ _ _ wr => s.size - (intOf i).toNat)
  case atStart => exact ⟨0, [], s.data.toList, rfl, by rw [toL_len]; omega, rfl, hL0.out, h0'.out⟩
  case round =>
    obtain ⟨k, done, rest, rfl, hk, hD, hL, hJd⟩ := hrel
    have bx := blk_cell hL.out.box 0
    have bf := blk_free hL.out.box 0
    simp at bx
    cases rest with
    | nil =>
      have e1 : (linesOf s) = done := by rw [hD.out, said_nil, List.append_nil]
      have em : (ofL ([] : List UInt8)).toList.isEmpty = true := ofL_emp []
      replace e1 := Lib.hid e1
      gi_wp2
      go_end0
      exact ⟨⟨_, rfl⟩, .inl (by rw [e1.out]; exact hJd.out)⟩
    | cons c rs =>
      have em : (ofL (c :: rs)).toList.isEmpty = false := ofL_emp (c :: rs)
      have hct := cut_call (ofL (c :: rs)) 10 wr hL.out.mx (by rw [ofL_size]; omega)
      rw [ofL_toL] at hct
      obtain ⟨rest, hrest⟩ : ∃ rest, rest = c :: rs := ⟨_, rfl⟩
      have hrl : 1 ≤ rest.length := by rw [hrest]; simp
      rw [← hrest] at bx em hct hk hD hL
      clear hrest
      replace hct := Lib.hid hct
      gi_wp2
      refine ⟨trivial, fun _ => by omega, (callsIn_wide.2 hct.out).mono ?_⟩
      rintro e w1 ⟨⟨a, r, b, rfl, hab⟩, nd, rfl⟩
      have hsd : said k (cutAll 10 rest) = (if saysB a = true then [(((k : Int) + 1), ofL a)] else []) ++ said (k + 1) (cutAll 10 r) := by
        rcases hab with ⟨_, e1, e2, e3⟩ | ⟨_, e1, e3⟩
        · rw [← e1, cutAll_no e3, e2, said_nil]
          unfold said
          split <;> rfl
        · rw [e1, cutAll_hit e3, said]
          split <;> rfl
      have hkr : (k + 1) + r.length ≤ s.size := by
        rcases hab with ⟨_, e1, e2, e3⟩ | ⟨_, e1, e3⟩
        · rw [e2]; simp; omega
        · have := congrArg List.length e1; simp at this; omega
      have hL1 : LiW w0 Bt rest (wr.drewN nd) := ⟨hL.out.box, hL.out.mx⟩
      have hJ1 : J done (wr.drewN nd) := hJ.out done wr _ hJd.out (grown_drewN wr nd _)
      have hal : a.length ≤ s.size := by
        rcases hab with ⟨_, e1, e2, e3⟩ | ⟨_, e1, e3⟩
        · rw [e1]; omega
        · have := congrArg List.length e1; simp at this; omega
      replace hab := Lib.hid hab; replace hsd := Lib.hid hsd; replace hL1 := Lib.hid hL1; replace hJ1 := Lib.hid hJ1
      obtain ⟨w1, hw1⟩ : ∃ w1, w1 = wr.drewN nd := ⟨_, rfl⟩
      have bx1 : w1.cell? ⟨Bt, 0, none⟩ = some (.string (ofL rest)) := by rw [hw1]; exact bx
      have bf1 : w1.frozen? ⟨Bt, 0, none⟩ = false := by rw [hw1]; exact bf
      have hL1' := hL1.out
      have hJ1' := hJ1.out
      rw [← hw1] at hL1' hJ1' ⊢
      replace hL1' := Lib.hid hL1'; replace hJ1' := Lib.hid hJ1'; replace hw1 := Lib.hid hw1
      clear bx bf em
      cases a with
      | nil =>
        have em2 : (ofL ([] : List UInt8)).toList.isEmpty = true := ofL_emp []
        have hD2 : linesOf s = done ++ said (k + 1) (cutAll 10 r) := by rw [hD.out, hsd.out]; rfl
        have hL2 : LiW w0 Bt r (w1.setCell ⟨Bt, 0, none⟩ (.string (ofL r))) := liw_set hL1'.out hBt
        have hJ2 : J done (w1.setCell ⟨Bt, 0, none⟩ (.string (ofL r))) := hJ.out done w1 _ hJ1'.out (grown_setCell _ _ _ _)
        replace hD2 := Lib.hid hD2; replace hL2 := Lib.hid hL2; replace hJ2 := Lib.hid hJ2
        gi_wp2
        refine ⟨fun _ h => (by cases h), ?_⟩
        gi_wp2
        go_roundw
        case rel => exact ⟨k + 1, done, r, by go_num, hkr, hD2.out, hL2.out, hJ2.out⟩
        case measure => simp [intOf]; omega
      | cons c' a' =>
        have em2 : (ofL (c' :: a')).toList.isEmpty = false := ofL_emp (c' :: a')
        have hi0 : ∀ w, (Instr.index 9 (.string (ofL (c' :: a'))) (.int .i64 0)).run Tryz.prog w = .ok (.int .u8 (chz (ofL (c' :: a')) 0)) w := fun w => index_at Tryz.underlying9 (ofL (c' :: a')) 0 0 rfl (by rw [ofL_size]; simp) w
        have hch : chz (ofL (c' :: a')) 0 = (c'.toNat : Int) := by unfold chz; rw [ofL_toL]; rfl
        have hsy : saysB (c' :: a') = decide (chz (ofL (c' :: a')) 0 ≠ 35) := by
          rw [hch]
          unfold saysB
          refine decide_eq_decide.2 (not_congr ⟨fun h => by rw [h]; rfl, fun h => UInt8.toNat_inj.1 (by have : (35 : UInt8).toNat = 35 := rfl; omega)⟩)
        obtain ⟨x, hx⟩ : ∃ x, x = chz (ofL (c' :: a')) 0 := ⟨_, rfl⟩
        rw [← hx] at hi0 hsy
        obtain ⟨a, ha⟩ : ∃ a, a = c' :: a' := ⟨_, rfl⟩
        rw [← ha] at em2 hi0 hsy hsd hal
        rw [← ha]
        replace hch := Lib.hid hch; replace hx := Lib.hid hx; replace ha := Lib.hid ha
        by_cases h35 : x = 35
        · have d35 : (x != 35) = false := by simp [h35]
          have hD2 : linesOf s = done ++ said (k + 1) (cutAll 10 r) := by
            rw [hD.out, hsd.out, if_neg (by rw [hsy]; simp [h35])]; rfl
          have hL2 : LiW w0 Bt r (w1.setCell ⟨Bt, 0, none⟩ (.string (ofL r))) := liw_set hL1'.out hBt
          have hJ2 : J done (w1.setCell ⟨Bt, 0, none⟩ (.string (ofL r))) := hJ.out done w1 _ hJ1'.out (grown_setCell _ _ _ _)
          replace hD2 := Lib.hid hD2; replace hL2 := Lib.hid hL2; replace hJ2 := Lib.hid hJ2; replace h35 := Lib.hid h35; replace hsy := Lib.hid hsy
          gi_wp2
          refine ⟨fun _ h => (by cases h), ?_⟩
          gi_wp2
          go_roundw
          case rel => exact ⟨k + 1, done, r, by go_num, hkr, hD2.out, hL2.out, hJ2.out⟩
          case measure => simp [intOf]; omega
        · have d35 : (x != 35) = true := by simp [h35]
          have hD2 : linesOf s = (done ++ [(((k : Int) + 1), ofL a)]) ++ said (k + 1) (cutAll 10 r) := by
            rw [hD.out, hsd.out, if_pos (by rw [hsy]; simp [h35]), List.append_assoc]
          have hpre : (done ++ [(((k : Int) + 1), ofL a)]) <+: linesOf s := ⟨_, hD2.symm⟩
          obtain ⟨fn, tmps, assign, body, hy, hR⟩ := hY'.out done (((k : Int) + 1), ofL a) w1 hJ1'.out hpre
          replace hD2 := Lib.hid hD2; replace hpre := Lib.hid hpre; replace h35 := Lib.hid h35; replace hsy := Lib.hid hsy
          gi_wp2
          refine ⟨fun _ => by omega, hR.mono ?_⟩
          rintro e W3 (⟨rfl, hJ3, hb3, h03⟩ | ⟨rfl, hJx3⟩)
          · have hL3 : LiW w0 Bt rest W3 := ⟨hb3.trans hL1'.out.box, hL1'.out.mx.of_blk h03⟩
            have bx3 := blk_cell hL3.box 0
            have bf3 := blk_free hL3.box 0
            simp at bx3
            have hL2 : LiW w0 Bt r (W3.setCell ⟨Bt, 0, none⟩ (.string (ofL r))) := liw_set hL3 hBt
            have hJ2 : J (done ++ [(((k : Int) + 1), ofL a)]) (W3.setCell ⟨Bt, 0, none⟩ (.string (ofL r))) := hJ.out _ W3 _ hJ3 (grown_setCell _ _ _ _)
            clear bx1 bf1
            replace hL3 := Lib.hid hL3; replace hJ3 := Lib.hid hJ3; replace hb3 := Lib.hid hb3; replace h03 := Lib.hid h03; replace hL2 := Lib.hid hL2; replace hJ2 := Lib.hid hJ2
            gi_wp2
            go_roundw
            case rel => exact ⟨k + 1, done ++ [(((k : Int) + 1), ofL a)], r, by go_num, hkr, hD2.out, hL2.out, hJ2.out⟩
            case measure => simp [intOf]; omega
          · have hJx3' := Lib.hid hJx3
            clear hJx3
            gi_wp2
            refine bodyPost_ret (results_none rfl _ _ _) rfl ?_
            exact ⟨⟨_, rfl⟩, .inr ⟨done, (((k : Int) + 1), ofL a), hpre.out, hJx3'.out⟩⟩
end Go.Proofs.YteoihdkaoipocaaGreatDoor

/- fleet.Read: the fleet of a text: parts. -/
namespace Go.Proofs.YteoihdkaoipocaaGreatDoor
open Go.RowKit Go.Maps

set_option maxRecDepth 100000 in
theorem lines_any (s : ByteArray) (w : World) : Calls Tryz.prog 28 #[.string s] w fun e w' => e = .returned (.func (.func 66) #[] #[.pointer (some ⟨w.heap.size, 0, none⟩)]) ∧ w' = w.alloc (.cells #[.string s] 9 (0, 0)) := by
  go_enter Tryz.func28, Tryz.ntmps28
  go_wp2
  go_ret
  exact ⟨rfl, rfl⟩

/-- what is read of a text's lines: the nodes put so far; the first fault's error and line -/
def readTo : List Ndv → List (Int × ByteArray) → List Ndv × Int × Int
  | xs, [] => (xs, 0, 0)
  | xs, (i, l) :: ls =>
    match nodeOf l with
    | none => (xs, 50, i)
    | some v => if putE (xs.map Ndv.name) xs.length v.name v.parts = 0 then readTo (xs ++ [v]) ls else (xs, putE (xs.map Ndv.name) xs.length v.name v.parts, i)
/-- what fleet.Read answers: the nodes, the error, the line -/
def readOf (s : ByteArray) : List Ndv × Int × Int := if 4096 < s.size then ([], 2, 0) else readTo [] (linesOf s)
/-- one line more -/
theorem readTo_app (xs : List Ndv) (l m : List (Int × ByteArray)) (h : (readTo xs l).2.1 = 0) : readTo xs (l ++ m) = readTo (readTo xs l).1 m := by
  induction l generalizing xs with
  | nil => rfl
  | cons x l ih =>
    obtain ⟨i, b⟩ := x
    show readTo xs ((i, b) :: (l ++ m)) = _
    simp only [readTo] at h ⊢
    cases hn : nodeOf b with
    | none => rw [hn] at h; simp at h
    | some v =>
      rw [hn] at h
      simp only at h ⊢
      by_cases c : putE (xs.map Ndv.name) xs.length v.name v.parts = 0
      · rw [if_pos c] at h ⊢
        rw [if_pos c]
        exact ih _ h
      · rw [if_neg c] at h
        exact absurd h c
end Go.Proofs.YteoihdkaoipocaaGreatDoor

/- fleet.Read: the fleet of a text: what stands in its loop. -/
namespace Go.Proofs.YteoihdkaoipocaaGreatDoor
open Go.RowKit Go.Maps Go.Shelf

/-- a fleet in memory that tells these nodes -/
structure Flt (W : World) (fb mb base : Nat) (vs : List Ndv) : Prop where
  ex : ∃ nv xs, FlW W fb mb base nv xs ∧ xs.map Nde.pl = vs ∧ ∀ x, x ∈ xs → ∀ b off, x.po = some ⟨b, off, none⟩ → base ≤ b
theorem Flt.below {w w' : World} {fb mb base : Nat} {vs : List Ndv} (h : Flt w fb mb base vs) (hb : Below w.heap.size w w') : Flt w' fb mb base vs := by
  obtain ⟨nv, xs, h1, h2, h3⟩ := h.ex
  exact ⟨nv, xs, h1.below hb, h2, h3⟩
theorem flw_keep {w w' : World} {fb mb base : Nat} {nv : Value} {xs : List Nde} {row : Option Nat} (h : FlW w fb mb base nv xs) (hg : w.grownBy w' row) (hm : row ≠ some mb)
    (hp : ∀ x, x ∈ xs → ∀ b off, x.po = some ⟨b, off, none⟩ → base ≤ b) (key : ∀ (k : Nat) (c : Array Value) (T : TypeId) (fr : Nat × Nat), (k = fb ∨ base ≤ k) → w.heap[k]? = some (.cells c T fr) → w'.heap[k]? = some (.cells c T fr)) : FlW w' fb mb base nv xs := by
  refine ⟨key _ _ _ _ (.inl rfl) h.head, ⟨h.row.1, ?_⟩, h.map.kept hg (Ne.symm hm), fun x hx => ?_⟩
  · rcases h.row.2 with h | ⟨g, cap, cur, hv, hgb, hh, hr⟩
    · exact .inl h
    · exact .inr ⟨g, cap, cur, hv, hgb, key _ _ _ _ (.inr hgb) hh, hr⟩
  · have hk : ∀ b off, x.po = some ⟨b, off, none⟩ → ∃ c, w.heap[b]? = some (.cells c 9 (0, 0)) ∧ w'.heap[b]? = some (.cells c 9 (0, 0)) := fun b off e => by
      obtain ⟨c, hc⟩ := (h.ok x hx).2 b off e
      exact ⟨c, hc, key _ _ _ _ (.inr (hp x hx b off e)) hc⟩
    refine ⟨⟨strs_keep (h.ok x hx).1.parts hg.size fun b off e _ => ?_, (h.ok x hx).1.ple⟩, fun b off e => ?_⟩
    · obtain ⟨c, h1, h2⟩ := hk b off e
      rw [h1, h2]
    · obtain ⟨c, _, h2⟩ := hk b off e
      exact ⟨c, h2⟩

theorem readTo_stop (xs : List Ndv) (l m : List (Int × ByteArray)) (h : (readTo xs l).2.1 ≠ 0) : readTo xs (l ++ m) = readTo xs l := by
  induction l generalizing xs with
  | nil => exact absurd rfl h
  | cons x l ih =>
    obtain ⟨i, b⟩ := x
    show readTo xs ((i, b) :: (l ++ m)) = _
    simp only [readTo] at h ⊢
    cases hn : nodeOf b with
    | none => rfl
    | some v =>
      rw [hn] at h
      simp only at h ⊢
      by_cases c : putE (xs.map Ndv.name) xs.length v.name v.parts = 0
      · rw [if_pos c] at h ⊢
        rw [if_pos c]
        exact ih _ h
      · rw [if_neg c, if_neg c]
theorem readTo_bad {xs : List Ndv} {i : Int} {l : ByteArray} (h : nodeOf l = none) : readTo xs [(i, l)] = (xs, 50, i) := by
  simp only [readTo, h]
theorem readTo_put {xs : List Ndv} {i : Int} {l : ByteArray} {v : Ndv} (h : nodeOf l = some v) (hp : putE (xs.map Ndv.name) xs.length v.name v.parts = 0) : readTo xs [(i, l)] = (xs ++ [v], 0, 0) := by
  simp only [readTo, h, if_pos hp]
theorem readTo_not {xs : List Ndv} {i : Int} {l : ByteArray} {v : Ndv} (h : nodeOf l = some v) (hp : putE (xs.map Ndv.name) xs.length v.name v.parts ≠ 0) : readTo xs [(i, l)] = (xs, putE (xs.map Ndv.name) xs.length v.name v.parts, i) := by
  simp only [readTo, h, if_neg hp]

/-- what stands at a round's head -/
structure RdI (w : World) (pre : List (Int × ByteArray)) (W : World) : Prop where
  fl : Flt W (w.heap.size + 4) (w.heap.size + 3) (w.heap.size + 7) (readTo [] pre).1
  ok : (readTo [] pre).2.1 = 0
  low : Below w.heap.size w W
  mx : Mx W
  c0 : W.heap[w.heap.size]? = some (.cells #[.pointer none] 28 (0, 0))
  c1 : W.heap[w.heap.size + 1]? = some (.cells #[.int .i64 0] 29 (0, 0))
  c2 : W.heap[w.heap.size + 2]? = some (.cells #[.int .i64 0] 3 (0, 0))
  fx : W.heap[w.heap.size + 5]? = some (.cells #[.pointer (some ⟨w.heap.size + 4, 0, none⟩)] 28 (0, 0))
  sz : w.heap.size + 7 ≤ W.heap.size
/-- what stands where a round has stopped -/
structure RdX (w : World) (pre : List (Int × ByteArray)) (W : World) : Prop where
  low : Below w.heap.size w W
  bad : (readTo [] pre).2.1 ≠ 0
  c0 : W.heap[w.heap.size]? = some (.cells #[.pointer none] 28 (0, 0))
  c1 : W.heap[w.heap.size + 1]? = some (.cells #[.int .i64 (readTo [] pre).2.1] 29 (0, 0))
  c2 : W.heap[w.heap.size + 2]? = some (.cells #[.int .i64 (readTo [] pre).2.2] 3 (0, 0))
  sz : w.heap.size + 7 ≤ W.heap.size
/-- which block may turn -/
def RdR (w W : World) (row : Option Nat) : Prop := ∀ r, row = some r → r = w.heap.size + 6 ∨ (w.heap.size + 7 ≤ r ∧ ∃ o : Obj, W.heap[r]? = some o ∧ o.isCells = false)
theorem rd_key {w W W' : World} {row : Option Nat} (hg : W.grownBy W' row) (hr : RdR w W row) {k : Nat} {c : Array Value} {T : TypeId} {fr : Nat × Nat} (hk : k ≠ w.heap.size + 6) (h : W.heap[k]? = some (.cells c T fr)) : W'.heap[k]? = some (.cells c T fr) :=
  (hg.block k (blk_lt h) (fun e => by
    rcases hr k e.symm with e | ⟨_, o, ho, hc⟩
    · exact hk e
    · rw [h] at ho; cases ho; simp [Obj.isCells] at hc)).trans h
theorem rd_low {w W W' : World} {row : Option Nat} (hg : W.grownBy W' row) (hr : RdR w W row) (h : Below w.heap.size w W) : Below w.heap.size w W' :=
  h.grown hg h.size (fun k e => by rcases hr k e with e | ⟨e, _⟩ <;> omega)
theorem RdI.grown {w W W' : World} {pre : List (Int × ByteArray)} {row : Option Nat} (h : RdI w pre W) (hg : W.grownBy W' row) (hr : RdR w W row) : RdI w pre W' := by
  obtain ⟨nv, xs, h1, h2, h3⟩ := h.fl.ex
  refine ⟨⟨nv, xs, flw_keep h1 hg (fun e => ?_) h3 (fun k c T fr hk hh => rd_key hg hr (by omega) hh), h2, h3⟩, h.ok, rd_low hg hr h.low, ?_, rd_key hg hr (by omega) h.c0, rd_key hg hr (by omega) h.c1, rd_key hg hr (by omega) h.c2, rd_key hg hr (by omega) h.fx, Nat.le_trans h.sz hg.size⟩
  · rcases hr _ e with e | ⟨e, _⟩ <;> omega
  · refine h.mx.of_blk (hg.block 0 (by have := h.sz; omega) (fun e => ?_))
    rcases hr _ e.symm with e | ⟨e, _⟩ <;> omega
theorem RdX.grown {w W W' : World} {pre : List (Int × ByteArray)} {row : Option Nat} (h : RdX w pre W) (hg : W.grownBy W' row) (hr : RdR w W row) : RdX w pre W' :=
  ⟨rd_low hg hr h.low, h.bad, rd_key hg hr (by omega) h.c0, rd_key hg hr (by omega) h.c1, rd_key hg hr (by omega) h.c2, Nat.le_trans h.sz hg.size⟩
theorem RdI.below {w W W' : World} {pre : List (Int × ByteArray)} (h : RdI w pre W) (hb : Below W.heap.size W W') : RdI w pre W' :=
  ⟨h.fl.below hb, h.ok, h.low.trans (hb.mono h.low.size), h.mx.low hb, blk_below hb h.c0 (blk_lt h.c0), blk_below hb h.c1 (blk_lt h.c1), blk_below hb h.c2 (blk_lt h.c2), blk_below hb h.fx (blk_lt h.fx), Nat.le_trans h.sz hb.size⟩
theorem PutK.keeps {fb mb base lo B : Nat} {W W' : World} (h : PutK fb mb base lo W W') (hf : fb < B) (hm : mb < B) (hs : W.heap.size ≤ W'.heap.size) : KeepsFrom B W W' :=
  ⟨hs, fun k o hk hh ho => h.same k o hh (by omega) (by omega) (.inr fun c fr e => by rw [e] at ho; simp [Obj.isCells] at ho)⟩
theorem PutK.blk {fb mb base lo k : Nat} {W W' : World} (h : PutK fb mb base lo W W') (hk : k < W.heap.size) (hf : k ≠ fb) (hm : k ≠ mb) (hb : k < base) : W'.heap[k]? = W.heap[k]? := by
  obtain ⟨o, ho⟩ : ∃ o, W.heap[k]? = some o := ⟨_, Array.getElem?_eq_getElem hk⟩
  rw [ho]
  exact h.same k o ho hm hf (.inl hb)
end Go.Proofs.YteoihdkaoipocaaGreatDoor

/- fleet.Read: the fleet of a text: what its stores and its puts leave. -/
namespace Go.Proofs.YteoihdkaoipocaaGreatDoor
open Go.RowKit Go.Maps Go.Shelf

theorem said_le (n : Nat) (ps : List (List UInt8)) : ∀ x, x ∈ said n ps → ∃ p, p ∈ ps ∧ x.2 = ofL p := by
  induction ps generalizing n with
  | nil => intro x hx; simp [said] at hx
  | cons p ps ih =>
    intro x hx
    simp only [said] at hx
    have key : x ∈ said (n + 1) ps → ∃ q, q ∈ p :: ps ∧ x.2 = ofL q := fun h => by
      obtain ⟨q, h1, h2⟩ := ih _ x h
      exact ⟨q, List.mem_cons_of_mem _ h1, h2⟩
    split at hx
    · rcases List.mem_cons.1 hx with rfl | h
      · exact ⟨p, List.mem_cons_self .., rfl⟩
      · exact key h
    · exact key hx
theorem lines_le {s : ByteArray} {x : Int × ByteArray} (h : x ∈ linesOf s) : x.2.size ≤ s.size := by
  obtain ⟨p, h1, h2⟩ := said_le 0 _ x h
  have := cutAll_le h1
  rw [h2, ofL_size, ← toL_len s]
  exact this
/-- what is known of a line's node -/
structure NdvOk (v : Ndv) : Prop where
  name : isName v.name = true
  parts : ∀ p, p ∈ v.parts → isName p = true
  one : 1 ≤ v.parts.length
  cap : v.cap.right = true
theorem isName_le {s : ByteArray} (h : isName s = true) : s.size ≤ 16 := by
  simp only [isName, Bool.and_eq_true, decide_eq_true_eq] at h
  exact h.1.2
theorem nodeOf_ok {s : ByteArray} {v : Ndv} (h : nodeOf s = some v) : NdvOk v := by
  by_cases c : nodeOk s
  · rw [nodeOf_yes c] at h
    cases h
    obtain ⟨h1, h2, h3, h4⟩ := c
    refine ⟨h2, h3, by simp; omega, ?_⟩
    show (vecOf (wrd s 1)).1.right = true
    unfold vecOf at h4 ⊢
    split at h4
    · next hl =>
      rw [if_pos hl]
      unfold V4.told at h4 ⊢
      split at h4
      · next hr => rw [if_pos hr]; exact hr
      · cases h4
    · cases h4
  · rw [nodeOf_no c] at h; cases h
theorem nodeOf_parts {s : ByteArray} {v : Ndv} (h : nodeOf s = some v) : v.parts.length ≤ s.size + 1 := by
  by_cases c : nodeOk s
  · rw [nodeOf_yes c] at h
    cases h
    have := words_many s
    simp
    omega
  · rw [nodeOf_no c] at h; cases h
theorem readTo_zero (xs : List Ndv) (l : List (Int × ByteArray)) (h : (readTo xs l).2.1 = 0) : (readTo xs l).2.2 = 0 := by
  induction l generalizing xs with
  | nil => rfl
  | cons x l ih =>
    obtain ⟨i, b⟩ := x
    simp only [readTo] at h ⊢
    cases hn : nodeOf b with
    | none => rw [hn] at h; simp at h
    | some v =>
      rw [hn] at h
      simp only at h ⊢
      by_cases c : putE (xs.map Ndv.name) xs.length v.name v.parts = 0
      · rw [if_pos c] at h ⊢
        exact ih _ h
      · rw [if_neg c] at h
        exact absurd h c

/-- three results stored -/
structure S3 (R : Nat) (W W' : World) (p : Value) (e i : Int) : Prop where
  size : W'.heap.size = W.heap.size
  c0 : W'.heap[R]? = some (.cells #[p] 28 (0, 0))
  c1 : W'.heap[R + 1]? = some (.cells #[.int .i64 e] 29 (0, 0))
  c2 : W'.heap[R + 2]? = some (.cells #[.int .i64 i] 3 (0, 0))
  other : ∀ (k : Nat) (o : Obj), W.heap[k]? = some o → k ≠ R → k ≠ R + 1 → k ≠ R + 2 → W'.heap[k]? = some o
  low : ∀ w, Below R w W → Below R w W'
  back : ∀ (k : Nat), k ≠ R → k ≠ R + 1 → k ≠ R + 2 → W'.heap[k]? = W.heap[k]?
theorem heap_set_other {W : World} {b o k : Nat} {v : Value} (h : k ≠ b) : (W.setCell ⟨b, o, none⟩ v).heap[k]? = W.heap[k]? := Below.heap_setCell _ _ _ _ h
theorem s3_of {R : Nat} {W : World} {a b c : Value} (h0 : W.heap[R]? = some (.cells #[a] 28 (0, 0))) (h1 : W.heap[R + 1]? = some (.cells #[b] 29 (0, 0))) (h2 : W.heap[R + 2]? = some (.cells #[c] 3 (0, 0))) (p : Value) (e i : Int) :
    S3 R W (((W.setCell ⟨R, 0, none⟩ p).setCell ⟨R + 1, 0, none⟩ (.int .i64 e)).setCell ⟨R + 2, 0, none⟩ (.int .i64 i)) p e i := by
  have back : ∀ (k : Nat), k ≠ R → k ≠ R + 1 → k ≠ R + 2 → (((W.setCell ⟨R, 0, none⟩ p).setCell ⟨R + 1, 0, none⟩ (.int .i64 e)).setCell ⟨R + 2, 0, none⟩ (.int .i64 i)).heap[k]? = W.heap[k]? := fun k k0 k1 k2 =>
    (heap_set_other k2).trans ((heap_set_other k1).trans (heap_set_other k0))
  refine ⟨by simp [World.setCell], ?_, ?_, ?_, fun k o hk k0 k1 k2 => (back k k0 k1 k2).trans hk, fun w h => ((h.setCell (Nat.le_refl _) _).setCell (Nat.le_succ _) _).setCell (Nat.le_add_right _ _) _, back⟩
  · rw [heap_set_other (by omega), heap_set_other (by omega), blk_set h0]; rfl
  · rw [heap_set_other (by omega), blk_set (c := #[b]) (T := 29) (fr := (0, 0)) ((heap_set_other (by omega)).trans h1)]; rfl
  · rw [blk_set (c := #[c]) (T := 3) (fr := (0, 0)) ((heap_set_other (by omega)).trans ((heap_set_other (by omega)).trans h2))]; rfl
theorem Flt.other {W W' : World} {fb mb base : Nat} {vs : List Ndv} (h : Flt W fb mb base vs) (hsz : W.heap.size ≤ W'.heap.size) (key : ∀ (k : Nat) (o : Obj), W.heap[k]? = some o → k = fb ∨ k = mb ∨ (base ≤ k ∧ o.isCells = true) → W'.heap[k]? = some o) : Flt W' fb mb base vs := by
  obtain ⟨nv, xs, h1, h2, h3⟩ := h.ex
  refine ⟨nv, xs, ⟨key _ _ h1.head (.inl rfl), ⟨h1.row.1, ?_⟩, ?_, fun x hx => ?_⟩, h2, h3⟩
  · rcases h1.row.2 with h | ⟨g, cap, cur, hv, hgb, hh, hr⟩
    · exact .inl h
    · exact .inr ⟨g, cap, cur, hv, hgb, key _ _ hh (.inr (.inr ⟨hgb, rfl⟩)), hr⟩
  · obtain ⟨es, clock, hb, hr⟩ := h1.map
    exact ⟨es, clock, key _ _ hb (.inr (.inl rfl)), hr⟩
  · have hk : ∀ b off, x.po = some ⟨b, off, none⟩ → ∃ c, W.heap[b]? = some (.cells c 9 (0, 0)) ∧ W'.heap[b]? = some (.cells c 9 (0, 0)) := fun b off e => by
      obtain ⟨c, hc⟩ := (h1.ok x hx).2 b off e
      exact ⟨c, hc, key _ _ hc (.inr (.inr ⟨h3 x hx b off e, rfl⟩))⟩
    refine ⟨⟨strs_keep (h1.ok x hx).1.parts hsz fun b off e _ => ?_, (h1.ok x hx).1.ple⟩, fun b off e => ?_⟩
    · obtain ⟨c, h1, h2⟩ := hk b off e
      rw [h1, h2]
    · obtain ⟨c, _, h2⟩ := hk b off e
      exact ⟨c, h2⟩
/-- behind a put that was taken -/
theorem rd_put {w W3 w4 : World} {pre : List (Int × ByteArray)} {i : Int} {ln : ByteArray} {nv' : Value} {xs : List Nde} {x : Nde} (hI : RdI w pre W3) (h2 : xs.map Nde.pl = (readTo [] pre).1)
    (h3 : ∀ y, y ∈ xs → ∀ b off, y.po = some ⟨b, off, none⟩ → w.heap.size + 7 ≤ b) (hs : nodeOf ln = some x.pl) (hpo : ∀ b off, x.po = some ⟨b, off, none⟩ → w.heap.size + 7 ≤ b)
    (hE : putE (xs.map Nde.name) xs.length x.name x.parts = 0) (hF : FlW w4 (w.heap.size + 4) (w.heap.size + 3) (w.heap.size + 7) nv' (xs ++ [x]))
    (hK : PutK (w.heap.size + 4) (w.heap.size + 3) (w.heap.size + 7) w.heap.size W3 w4) (hpos : 0 < w.heap.size) : RdI w (pre ++ [(i, ln)]) w4 := by
  have hsz := hI.sz
  have h4 := hK.low.size
  have hns : xs.map Nde.name = (readTo [] pre).1.map Ndv.name := by rw [← h2, List.map_map]; rfl
  have hln : xs.length = (readTo [] pre).1.length := by rw [← h2, List.length_map]
  have hr : readTo [] (pre ++ [(i, ln)]) = ((readTo [] pre).1 ++ [x.pl], 0, 0) := by
    rw [readTo_app _ _ _ hI.ok, readTo_put hs]
    rw [hns, hln] at hE
    exact hE
  have kp : ∀ {k : Nat} {o : Obj}, W3.heap[k]? = some o → k ≠ w.heap.size + 4 → k ≠ w.heap.size + 3 → k < w.heap.size + 7 → w4.heap[k]? = some o := fun hk a b c => hK.same _ _ hk b a (.inl c)
  refine ⟨⟨nv', xs ++ [x], hF, by rw [hr, List.map_append, h2]; rfl, fun y hy => ?_⟩, by rw [hr], hI.low.trans hK.low, ?_, kp hI.c0 (by omega) (by omega) (by omega), kp hI.c1 (by omega) (by omega) (by omega), kp hI.c2 (by omega) (by omega) (by omega), kp hI.fx (by omega) (by omega) (by omega), by omega⟩
  · rcases List.mem_append.1 hy with h | h
    · exact h3 y h
    · have : y = x := by simpa using h
      subst this
      exact hpo
  · exact hI.mx.of_blk (hK.low.block 0 hpos)
/-- behind a put that was not taken -/
theorem rd_not {w W3 w4 : World} {pre : List (Int × ByteArray)} (hI : RdI w pre W3)
    (hK : PutK (w.heap.size + 4) (w.heap.size + 3) (w.heap.size + 7) w.heap.size W3 w4) :
    w4.heap[w.heap.size]? = some (.cells #[.pointer none] 28 (0, 0)) ∧ w4.heap[w.heap.size + 1]? = some (.cells #[.int .i64 0] 29 (0, 0)) ∧ w4.heap[w.heap.size + 2]? = some (.cells #[.int .i64 0] 3 (0, 0)) ∧ Below w.heap.size w w4 ∧ W3.heap.size ≤ w4.heap.size := by
  have kp : ∀ {k : Nat} {o : Obj}, W3.heap[k]? = some o → k ≠ w.heap.size + 4 → k ≠ w.heap.size + 3 → k < w.heap.size + 7 → w4.heap[k]? = some o := fun hk a b c => hK.same _ _ hk b a (.inl c)
  exact ⟨kp hI.c0 (by omega) (by omega) (by omega), kp hI.c1 (by omega) (by omega) (by omega), kp hI.c2 (by omega) (by omega) (by omega), hI.low.trans hK.low, hK.low.size⟩
end Go.Proofs.YteoihdkaoipocaaGreatDoor

/- strings.Builder at this program: copyCheck, WriteString (after the shelf's own proofs: the program's copyCheck has a refused end, so the shelf's laying does not fit). -/
namespace Go.Proofs.YteoihdkaoipocaaGreatDoor
open Go.RowKit Go.Shelf

theorem sizeBuilder : (Tryz.prog.info? 139).map (·.size) = some 2 := by kernel_rfl
theorem liesBuilder : liesAt Tryz.prog Tryz.prog.depth 134 (2 / Tryz.prog.cellsOf 139) 0 134 1 = true := by kernel_rfl
end Go.Proofs.YteoihdkaoipocaaGreatDoor

/- fleet.Read: the fleet of a text. -/
namespace Go.Proofs.YteoihdkaoipocaaGreatDoor
open Go.RowKit Go.Maps Go.Shelf
attribute [local go_sem] Oper.semAt_some

/-- the world ahead of the loop -/
def rdW (w : World) (s : ByteArray) : World :=
  ((((((w.alloc (.cells #[.pointer none] 28 (0, 0))).alloc (.cells #[.int .i64 0] 29 (0, 0))).alloc (.cells #[.int .i64 0] 3 (0, 0))).alloc (.map #[] 0)).alloc (.cells #[.slice none 0 0, .map (some (w.heap.size + 3))] 67 (0, 0))).alloc (.cells #[.pointer (some ⟨w.heap.size + 4, 0, none⟩)] 28 (0, 0))).alloc (.cells #[.string s] 9 (0, 0))
theorem rdW_size (w : World) (s : ByteArray) : (rdW w s).heap.size = w.heap.size + 7 := by simp [rdW]
theorem rdW_low (w : World) (s : ByteArray) : Below w.heap.size w (rdW w s) :=
  (((((((Below.refl _ _).alloc (Nat.le_refl _) _).alloc (by simp) _).alloc (by simp; omega) _).alloc (by simp; omega) _).alloc (by simp; omega) _).alloc (by simp; omega) _).alloc (by simp; omega) _
theorem rdW_box (w : World) (s : ByteArray) : (rdW w s).heap[w.heap.size + 6]? = some (.cells #[.string s] 9 (0, 0)) := by
  unfold rdW; exact blk_at _ _ (by simp)
theorem rdW_start (w : World) (s : ByteArray) (hm : Mx w) : RdI w [] (rdW w s) := by
  refine ⟨⟨.slice none 0 0, [], ⟨?_, ⟨rfl, .inl ⟨rfl, rfl⟩⟩, ?_, fun x hx => by cases hx⟩, rfl, fun x hx => by cases hx⟩, rfl, rdW_low w s, hm.low (rdW_low w s), ?_, ?_, ?_, ?_, by rw [rdW_size]; exact Nat.le_refl _⟩
  · unfold rdW; exact blk_old _ (blk_old _ (blk_at _ _ (by simp)))
  · have h0 := World.ownsMap_made ((((w.alloc (.cells #[.pointer none] 28 (0, 0))).alloc (.cells #[.int .i64 0] 29 (0, 0))).alloc (.cells #[.int .i64 0] 3 (0, 0)))) Tryz.prog 9 (plainElem (H := Unit) Tryz.prog 3)
    have h1 := ((h0.alloc (.cells #[.slice none 0 0, .map (some (w.heap.size + 3))] 67 (0, 0))).alloc (.cells #[.pointer (some ⟨w.heap.size + 4, 0, none⟩)] 28 (0, 0))).alloc (.cells #[.string s] 9 (0, 0))
    simp only [World.size_alloc] at h1
    exact h1
  · unfold rdW; exact blk_old _ (blk_old _ (blk_old _ (blk_old _ (blk_old _ (blk_old _ (blk_new _ _))))))
  · unfold rdW; exact blk_old _ (blk_old _ (blk_old _ (blk_old _ (blk_old _ (blk_at _ _ (by simp))))))
  · unfold rdW; exact blk_old _ (blk_old _ (blk_old _ (blk_old _ (blk_at _ _ (by simp)))))
  · unfold rdW; exact blk_old _ (blk_at _ _ (by simp))
/-- what fleet.Read answers -/
def ReadPost (s : ByteArray) (w : World) (e : Ending) (w' : World) : Prop :=
  ∃ p, e = .returned (.tuple #[.pointer p, .int .i64 (readOf s).2.1, .int .i64 (readOf s).2.2]) ∧ Below w.heap.size w w' ∧
    (((readOf s).2.1 ≠ 0 ∧ p = none) ∨ ((readOf s).2.1 = 0 ∧ p = some ⟨w.heap.size + 4, 0, none⟩ ∧ Flt w' (w.heap.size + 4) (w.heap.size + 3) (w.heap.size + 7) (readOf s).1))
theorem read_long (s : ByteArray) (w : World) (hs : 4096 < s.size) : Calls Tryz.prog 7 #[.string s] w (ReadPost s w) := by
  have hr : readOf s = ([], 2, 0) := if_pos hs
  have d1 : decide ((4096 : Int) < s.size) = true := decide_eq_true (by omega)
  have d1' : decide (4096 < s.size) = true := decide_eq_true (by omega)
  replace hr := Lib.hid hr
  go_enter Tryz.func7, Tryz.ntmps7
  go_wp2
  refine bodyPost_ret (v := .tuple #[.pointer none, .int .i64 2, .int .i64 0]) (by simp [results, Tryz.results7, go_sem]) rfl ?_
  refine ⟨none, by rw [hr.out], ?_, .inl ⟨by rw [hr.out]; decide, rfl⟩⟩
  exact (((Below.refl _ _).alloc (Nat.le_refl _) _).alloc (by simp) _).alloc (by simp; omega) _

set_option maxRecDepth 100000 in
set_option maxHeartbeats 6400000 in
theorem read_short (s : ByteArray) (w : World) (hm : Mx w) (hs : ¬ 4096 < s.size) : Calls Tryz.prog 7 #[.string s] w (ReadPost s w) := by
  have hr : readOf s = readTo [] (linesOf s) := if_neg hs
  have hmm := @run_makeMap Tryz.prog
  have d1 : decide ((4096 : Int) < s.size) = false := decide_eq_false (by omega)
  have d1' : decide (4096 < s.size) = false := decide_eq_false (by omega)
  have hm0 := hm
  replace hr := Lib.hid hr; replace hm0 := Lib.hid hm0; replace hm := Lib.hid hm
  refine (callsIn_wide (n := 8)).1 ?_
  refine callsIn_of_wp_marks Tryz.func7 rfl trivial ?_ rfl
  simp only [Tryz.ntmps7, List.size_toArray, List.length_cons, List.length_nil, Nat.reduceAdd, Nat.reduceSub, Array.replicate_succ, Array.replicate_zero, List.push_toArray, List.append_toArray, List.nil_append, List.cons_append]
  gi_wp2_with fail
  refine ⟨trivial, (callsIn_wide.2 (lines_any s _)).mono ?_⟩
  rintro e w1 ⟨rfl, hw1⟩
  gi_wp2_with fail
  subst hw1
  clear hmm
  change Code.wpIn _ _ _ _ _ { tmps := #[.string s, undef, .pointer (some ⟨w.heap.size, 0, none⟩), .pointer (some ⟨w.heap.size + 1, 0, none⟩), .pointer (some ⟨w.heap.size + 2, 0, none⟩), .pointer (some ⟨w.heap.size + 5, 0, none⟩), undef, undef, undef, undef, .string s, .int .i64 s.size, .bool false, .map (some (w.heap.size + 3)), .agg #[.slice none 0 0, .map (some (w.heap.size + 3))], .pointer (some ⟨w.heap.size + 4, 0, none⟩), .string s, .func (.func 66) #[] #[.pointer (some ⟨w.heap.size + 6, 0, none⟩)], undef, undef, undef, undef, undef, undef, undef, undef, undef, undef, undef, undef, undef, undef, undef, undef, undef], defers := [] } (rdW w s)
  have hS := rdW_start w s hm0.out
  have hsz := rdW_size w s
  have hbx := rdW_box w s
  have hmx := hS.mx
  have hpos : 0 < w.heap.size := hm0.out.pos
  generalize rdW w s = W1 at hS hsz hbx hmx ⊢
  replace hS := Lib.hid hS; replace hbx := Lib.hid hbx; replace hmx := Lib.hid hmx
  refine wpIn_rangeFunc_box rfl (by omega) (gf := 66) (lb := #[.pointer (some ⟨w.heap.size + 6, 0, none⟩)]) rfl trivial (enters_of Tryz.func66 (by kernel_rfl) rfl)
    (lines_seq 7 (by omega) (w.heap.size + 6) s W1 (by omega) hbx.out hmx.out (by omega)) (by omega) (Below.refl _ _) (fun _ => rfl)
    (RdI w) (fun c pre W => c = .ret ∧ RdX w pre W) ?hI ?hIx ?hIb ?hIxb hS.out
    (fun x => { tmps := #[.string s, undef, .pointer (some ⟨w.heap.size, 0, none⟩), .pointer (some ⟨w.heap.size + 1, 0, none⟩), .pointer (some ⟨w.heap.size + 2, 0, none⟩), .pointer (some ⟨w.heap.size + 5, 0, none⟩), .int .i64 x.1, .string x.2, undef, undef, .string s, .int .i64 s.size, .bool false, .map (some (w.heap.size + 3)), .agg #[.slice none 0 0, .map (some (w.heap.size + 3))], .pointer (some ⟨w.heap.size + 4, 0, none⟩), .string s, .func (.func 66) #[] #[.pointer (some ⟨w.heap.size + 6, 0, none⟩)], .int .i64 x.1, .string x.2, undef, undef, undef, undef, undef, undef, undef, undef, undef, undef, undef, undef, undef, undef, undef], defers := [] }) ?assign ?body ?done ?stop
  case hI =>
    intro pre A B row h hg hr2
    exact h.grown hg fun r e => .inr (by rw [← hsz]; exact hr2 r e)
  case hIx =>
    rintro c pre A B row ⟨rfl, h⟩ hg hr2
    exact ⟨rfl, h.grown hg fun r e => .inr (by rw [← hsz]; exact hr2 r e)⟩
  case hIb =>
    intro pre A B h hg
    exact h.grown hg fun r e => .inl (by cases e; rfl)
  case hIxb =>
    rintro c pre A B ⟨rfl, h⟩ hg
    exact ⟨rfl, h.grown hg fun r e => .inl (by cases e; rfl)⟩
  case assign =>
    intro l x W K hK
    gi_wp2
    exact hK
  case body =>
    rintro l pre ⟨i, ln⟩ W hI hpre
    have hmem : (i, ln) ∈ linesOf s := hpre.subset (by simp)
    have hln := lines_le hmem
    have hnode := node_any ln W hI.mx (by have : ln.size ≤ s.size := hln; omega)
    replace hI := Lib.hid hI; replace hpre := Lib.hid hpre; replace hmem := Lib.hid hmem; replace hln := Lib.hid hln; replace hnode := Lib.hid hnode
    gi_wp2_with fail
    refine ⟨trivial, ((callsIn_wide.2 hnode.out).inRound l).mono ?_⟩
    rintro e w2 ⟨x, r, rfl, hok, hlow, hpo, hcase⟩
    have hI2 := hI.out.below hlow
    have c0 := blk_cell hI2.c0 0
    have c1 := blk_cell hI2.c1 0
    have c2 := blk_cell hI2.c2 0
    have c5 := blk_cell hI2.fx 0
    have f0 := blk_free hI2.c0 0
    have f1 := blk_free hI2.c1 0
    have f2 := blk_free hI2.c2 0
    have l0 := blk_lt hI2.c0
    have l1 := blk_lt hI2.c1
    have l2 := blk_lt hI2.c2
    have l5 := blk_lt hI2.fx
    simp at c0 c1 c2 c5
    rcases hcase with ⟨hnone, rfl, rfl⟩ | ⟨hsome, rfl⟩
    · have hs3 := s3_of hI2.c0 hI2.c1 hI2.c2 (.pointer none) 50 i
      have hrd : readTo [] (pre ++ [(i, ln)]) = ((readTo [] pre).1, 50, i) := by rw [readTo_app _ _ _ hI.out.ok, readTo_bad hnone]
      have hsz2 := hI2.sz
      replace hI2 := Lib.hid hI2; replace hok := Lib.hid hok; replace hlow := Lib.hid hlow; replace hpo := Lib.hid hpo; replace hnone := Lib.hid hnone; replace hs3 := Lib.hid hs3; replace hrd := Lib.hid hrd
      gi_wp2
      refine ⟨?_, rfl, ?_⟩
      · refine ⟨?_, fun k o hk hh ho => blk_old _ (hs3.out.other k o (blk_below hlow.out hh (blk_lt hh)) (by omega) (by omega) (by omega))⟩
        have := hs3.out.size
        have := hlow.out.size
        rw [World.size_alloc]
        omega
      · refine ⟨(hs3.out.low _ hI2.out.low).alloc (hs3.out.low _ hI2.out.low).size _, by rw [hrd.out]; show (50 : Int) ≠ 0; decide, blk_old _ hs3.out.c0, by rw [hrd.out]; exact blk_old _ hs3.out.c1, by rw [hrd.out]; exact blk_old _ hs3.out.c2, ?_⟩
        have := hs3.out.size
        rw [World.size_alloc]
        omega
    · have hnd := nodeOf_ok hsome
      have hnp := nodeOf_parts hsome
      have hnm := isName_le hnd.name
      obtain ⟨W3, hW3⟩ : ∃ W3, W3 = w2.alloc (.cells x.cells 73 (0, 0)) := ⟨_, rfl⟩
      have hlow3 : Below w2.heap.size w2 W3 := by rw [hW3]; exact (Below.refl _ _).alloc (Nat.le_refl _) _
      have hI3 := hI2.below hlow3
      have hok3 := hok.low hlow3
      have hpa3 : PartsAt W3 x := fun b off e => by
        obtain ⟨_, c, hc⟩ := hpo b off e
        exact ⟨c, blk_below hlow3 hc (blk_lt hc)⟩
      obtain ⟨nv, xs, h1, h2, h3⟩ := hI3.fl.ex
      have hpo7 : ∀ b off, x.po = some ⟨b, off, none⟩ → w.heap.size + 7 ≤ b := fun b off e => Nat.le_trans hI.out.sz (hpo b off e).1
      have hpn : x.pn ≤ 4294967296 := by
        have e1 := hok3.parts.len
        have e2 : x.parts.length ≤ ln.size + 1 := hnp
        have : ln.size ≤ s.size := hln.out
        omega
      have hput := put_any W3 (w.heap.size + 4) (w.heap.size + 3) (w.heap.size + 7) w.heap.size nv xs x h1 hok3 hpa3 (by have : maxLen = 9223372036854775807 := rfl; have : x.name.size ≤ 16 := hnm; omega) hpn (by omega) (by omega) (by omega) hI3.sz
      obtain ⟨E, hE⟩ : ∃ E, E = putE (xs.map Nde.name) xs.length x.name x.parts := ⟨_, rfl⟩
      rw [← hE] at hput
      have hns : xs.map Nde.name = (readTo [] pre).1.map Ndv.name := by rw [← h2, List.map_map]; rfl
      have hxl : xs.length = (readTo [] pre).1.length := by rw [← h2, List.length_map]
      obtain ⟨nm, ⟨ca, cb, cc, cd⟩, po, pn, pc, ps⟩ := x
      rw [hW3] at hput
      replace hI2 := Lib.hid hI2; replace hok := Lib.hid hok; replace hlow := Lib.hid hlow; replace hpo := Lib.hid hpo; replace hsome := Lib.hid hsome; replace hnd := Lib.hid hnd; replace hnp := Lib.hid hnp; replace hnm := Lib.hid hnm; replace hlow3 := Lib.hid hlow3; replace hI3 := Lib.hid hI3; replace hok3 := Lib.hid hok3; replace hpa3 := Lib.hid hpa3; replace h1 := Lib.hid h1; replace h2 := Lib.hid h2; replace h3 := Lib.hid h3; replace hpo7 := Lib.hid hpo7; replace hpn := Lib.hid hpn; replace hput := Lib.hid hput; replace hE := Lib.hid hE; replace hns := Lib.hid hns; replace hxl := Lib.hid hxl
      have hW3' := Lib.hid hW3
      clear hW3
      gi_wp2_with fail
      refine ⟨trivial, ((callsIn_wide.2 hput.out).inRound l).mono ?_⟩
      rintro e w4 ⟨nv', rfl, hF4, hK⟩
      rw [← hW3'.out] at hK
      have hno := rd_not hI3.out hK
      obtain ⟨q0, q1, q2, hlow4, hsz4⟩ := hno
      clear c0 c1 c2 c5 f0 f1 f2 l0 l1 l2 l5
      by_cases hE0 : E = 0
      · subst hE0
        rw [if_pos rfl] at hF4
        have hI4 : RdI w (pre ++ [(i, ln)]) w4 := rd_put hI3.out h2.out h3.out hsome.out hpo7.out hE.out.symm hF4 hK hpos
        replace hF4 := Lib.hid hF4; replace hK := Lib.hid hK; replace q0 := Lib.hid q0; replace q1 := Lib.hid q1; replace q2 := Lib.hid q2; replace hlow4 := Lib.hid hlow4; replace hsz4 := Lib.hid hsz4; replace hI4 := Lib.hid hI4
        gi_wp2
        have hsW3 : W.heap.size ≤ W3.heap.size := Nat.le_trans hlow.out.size hlow3.out.size
        have key : ∀ k, k < W.heap.size → W3.heap[k]? = W.heap[k]? := fun k hk => (hlow3.out.block k (Nat.lt_of_lt_of_le hk hlow.out.size)).trans (hlow.out.block k hk)
        have hsW := hI.out.sz
        refine ⟨⟨Nat.le_trans hsW3 hsz4.out, fun k o hk hh ho => ?_⟩, ⟨?_, ?_⟩, hI4.out⟩
        · exact (hK.out.keeps (B := W1.heap.size) (by omega) (by omega) hsz4.out).same k o hk ((key k (blk_lt hh)).trans hh) ho
        · exact (hK.out.blk (by omega) (by omega) (by omega) (by omega)).trans (key _ (by omega))
        · exact (hK.out.low.block 0 hpos).trans (key _ (by omega))
      · have hrd : readTo [] (pre ++ [(i, ln)]) = ((readTo [] pre).1, E, i) := by
          rw [readTo_app _ _ _ hI.out.ok, readTo_not hsome.out]
          · rw [← hns.out, ← hxl.out]; rw [hE.out]; rfl
          · rw [← hns.out, ← hxl.out]; exact fun c => hE0 (hE.out.trans c)
        have hs3 := s3_of q0 q1 q2 (.pointer none) E i
        have c0 := blk_cell q0 0
        have c1 := blk_cell q1 0
        have c2 := blk_cell q2 0
        have f0 := blk_free q0 0
        have f1 := blk_free q1 0
        have f2 := blk_free q2 0
        simp at c0 c1 c2
        have dE : (E != 0) = true := by simpa using hE0
        replace hF4 := Lib.hid hF4; replace hK := Lib.hid hK; replace q0 := Lib.hid q0; replace q1 := Lib.hid q1; replace q2 := Lib.hid q2; replace hlow4 := Lib.hid hlow4; replace hsz4 := Lib.hid hsz4; replace hE0 := Lib.hid hE0; replace hrd := Lib.hid hrd; replace hs3 := Lib.hid hs3
        gi_wp2
        have hsW3 : W.heap.size ≤ W3.heap.size := Nat.le_trans hlow.out.size hlow3.out.size
        have key : ∀ k, k < W.heap.size → W3.heap[k]? = W.heap[k]? := fun k hk => (hlow3.out.block k (Nat.lt_of_lt_of_le hk hlow.out.size)).trans (hlow.out.block k hk)
        have hsW := hI.out.sz
        refine ⟨⟨by rw [hs3.out.size]; exact Nat.le_trans hsW3 hsz4.out, fun k o hk hh ho => ?_⟩, rfl, hs3.out.low _ hlow4.out, by rw [hrd.out]; exact hE0.out, hs3.out.c0, by rw [hrd.out]; exact hs3.out.c1, by rw [hrd.out]; exact hs3.out.c2, by rw [hs3.out.size]; have := hsz4.out; omega⟩
        exact hs3.out.other k o ((hK.out.keeps (B := W1.heap.size) (by omega) (by omega) hsz4.out).same k o hk ((key k (blk_lt hh)).trans hh) ho) (by omega) (by omega) (by omega)
  case done =>
    intro D W hD hI hK
    have c0 := blk_cell hI.c0 0
    have c1 := blk_cell hI.c1 0
    have c2 := blk_cell hI.c2 0
    have c5 := blk_cell hI.fx 0
    have f0 := blk_free hI.c0 0
    have f1 := blk_free hI.c1 0
    have f2 := blk_free hI.c2 0
    simp at c0 c1 c2 c5
    have hs3 := s3_of hI.c0 hI.c1 hI.c2 (.pointer (some ⟨w.heap.size + 4, 0, none⟩)) 0 0
    have hz := readTo_zero [] (linesOf s) hI.ok
    have hDs := blk_lt hK
    have hKD := hs3.other D _ hK (by omega) (by omega) (by omega)
    replace hI := Lib.hid hI; replace hK := Lib.hid hK; replace hs3 := Lib.hid hs3; replace hz := Lib.hid hz; replace hKD := Lib.hid hKD
    gi_wp2
    refine ⟨by simp, .inl ⟨_, _, rfl, run_takeDeferred hKD.out, ?_⟩⟩
    obtain ⟨W5, hW5⟩ : ∃ W5, W5 = (((W.setCell ⟨w.heap.size, 0, none⟩ (.pointer (some ⟨w.heap.size + 4, 0, none⟩))).setCell ⟨w.heap.size + 1, 0, none⟩ (.int .i64 0)).setCell ⟨w.heap.size + 2, 0, none⟩ (.int .i64 0)) := ⟨_, rfl⟩
    have hs5 := hs3.out
    have hK5 := hKD.out
    rw [← hW5] at hs5 hK5 ⊢
    have g0 := blk_cell ((World.putObj_heap_other (o := .deferred none) (show w.heap.size ≠ D by omega)).trans hs5.c0) 0
    have g1 := blk_cell ((World.putObj_heap_other (o := .deferred none) (show w.heap.size + 1 ≠ D by omega)).trans hs5.c1) 0
    have g2 := blk_cell ((World.putObj_heap_other (o := .deferred none) (show w.heap.size + 2 ≠ D by omega)).trans hs5.c2) 0
    simp at g0 g1 g2
    refine ⟨.tuple #[.pointer (some ⟨w.heap.size + 4, 0, none⟩), .int .i64 0, .int .i64 0], by simp [results, Tryz.results7, go_sem, g0, g1, g2], some ⟨w.heap.size + 4, 0, none⟩, by rw [hr.out, hI.out.ok, hz.out], ?_, .inr ⟨by rw [hr.out]; exact hI.out.ok, rfl, ?_⟩⟩
    · exact (hs5.low _ hI.out.low).grown (grownBy_putObj' _ D _) (hs5.low _ hI.out.low).size (fun k e => by cases e; omega)
    · rw [hr.out]
      refine hI.out.fl.other (by have := hs5.size; simp [World.putObj]; omega) fun k o hk hc => ?_
      have hne : k ≠ D := fun e => by
        subst e
        rw [hK.out] at hk
        cases hk
        rcases hc with e | e | ⟨_, e⟩
        · omega
        · omega
        · simp [Obj.isCells] at e
      exact (World.putObj_heap_other hne).trans (hs5.other k o hk (by omega) (by omega) (by omega))
  case stop =>
    rintro D c pre ⟨i, ln⟩ W hD hpre ⟨rfl, hX⟩ hK
    have hDs := blk_lt hK
    have hst : readTo [] (linesOf s) = readTo [] (pre ++ [(i, ln)]) := by
      obtain ⟨m, hm⟩ := hpre
      rw [← hm, readTo_stop _ _ _ hX.bad]
    replace hX := Lib.hid hX; replace hK := Lib.hid hK; replace hst := Lib.hid hst; replace hpre := Lib.hid hpre
    gi_wp2
    refine ⟨by simp, .inl ⟨_, _, rfl, run_takeDeferred hK.out, ?_⟩⟩
    have g0 := blk_cell ((World.putObj_heap_other (o := .deferred none) (show w.heap.size ≠ D by omega)).trans hX.out.c0) 0
    have g1 := blk_cell ((World.putObj_heap_other (o := .deferred none) (show w.heap.size + 1 ≠ D by omega)).trans hX.out.c1) 0
    have g2 := blk_cell ((World.putObj_heap_other (o := .deferred none) (show w.heap.size + 2 ≠ D by omega)).trans hX.out.c2) 0
    simp at g0 g1 g2
    refine ⟨.tuple #[.pointer none, .int .i64 (readTo [] (pre ++ [(i, ln)])).2.1, .int .i64 (readTo [] (pre ++ [(i, ln)])).2.2], by simp [results, Tryz.results7, go_sem, g0, g1, g2], none, by rw [hr.out, hst.out], ?_, .inl ⟨by rw [hr.out, hst.out]; exact hX.out.bad, rfl⟩⟩
    exact hX.out.low.grown (grownBy_putObj' _ D _) hX.out.low.size (fun k e => by cases e; omega)
theorem read_any (s : ByteArray) (w : World) (hm : Mx w) : Calls Tryz.prog 7 #[.string s] w (ReadPost s w) := by
  by_cases hs : 4096 < s.size
  · exact read_long s w hs
  · exact read_short s w hm hs
end Go.Proofs.YteoihdkaoipocaaGreatDoor
