/- corveeref05.node: the node of a line. -/
import Derived.Test.YteoihdkaoipocaaDoorRvr
namespace Go.Proofs.YteoihdkaoipocaaDoor
open Go.RowKit Go.Maps Go.Shelf

structure RnW (w : World) (vb b : Nat) (xs : List ByteArray) (v : V4) (W : World) : Prop where
  low : Below w.heap.size w W
  r0 : W.heap[w.heap.size]? = some (.cells Nde.zero.cells 48 (0, 0))
  r1 : W.heap[vb]? = some (.cells v.cells 25 (0, 0))
  strs : StrsAt W (some ⟨b, 0, none⟩) xs.length xs
  blk : ∃ c, W.heap[b]? = some (.cells c 9 (0, 0))
theorem RnW.below {w W W' : World} {vb b : Nat} {xs : List ByteArray} {v : V4} (h : RnW w vb b xs v W) (hb : Below W.heap.size W W') : RnW w vb b xs v W' := by
  obtain ⟨c, hc⟩ := h.blk
  exact ⟨h.low.trans (hb.mono h.low.size), blk_below hb h.r0 (blk_lt h.r0), blk_below hb h.r1 (blk_lt h.r1), h.strs.low hb, c, blk_below hb hc (blk_lt hc)⟩
theorem RnW.drew {w W : World} {vb b : Nat} {xs : List ByteArray} {v : V4} (h : RnW w vb b xs v W) : RnW w vb b xs v W.drew := ⟨h.low.drew, h.r0, h.r1, ⟨h.strs.len, h.strs.max, h.strs.cell⟩, h.blk⟩
theorem node_no {s : ByteArray} (h : ¬ nodeOk s) : nodeOf s = none := nodeOf_no h
set_option maxRecDepth 100000 in
set_option maxHeartbeats 6400000 in
theorem rnode_any (s : ByteArray) (w : World) (hs : s.size ≤ 4294967200) : Calls Tryd.prog 82 #[.string s] w (NodePost s w) := by
  obtain ⟨i9, hi9, hz9, hz91, hz92⟩ := info_parts info9
  obtain ⟨W0, hW0⟩ : ∃ W0, W0 = w.alloc (.cells Nde.zero.cells 48 (0, 0)) := ⟨_, rfl⟩
  have hb0 : Below w.heap.size w W0 := by rw [hW0]; exact (Below.refl _ _).alloc (Nat.le_refl _) _
  have hr0 : W0.heap[w.heap.size]? = some (.cells Nde.zero.cells 48 (0, 0)) := by rw [hW0]; exact blk_new _ _
  have hct := rcut_any s 32 W0 (by omega)
  have h32 : (((32 : UInt8).toNat : Nat) : Int) = 32 := rfl
  rw [h32] at hct
  clear h32
  rw [show (cutAll 32 s.data.toList).map ofL = words s from rfl] at hct
  have hsize : ∀ x, x ∈ words s → x.size ≤ s.size := fun x hx => words_le hx
  have hmany := words_many s
  rw [hW0] at hct
  have hW0' := Lib.hid hW0
  clear hW0
  obtain ⟨ws, hws⟩ : ∃ ws, ws = words s := ⟨_, rfl⟩
  rw [← hws] at hct hsize hmany
  have hsize' := Lib.hid hsize
  clear hsize
  replace hb0 := Lib.hid hb0; replace hr0 := Lib.hid hr0; replace hct := Lib.hid hct; replace hmany := Lib.hid hmany; replace hws := Lib.hid hws
  go_enter Tryd.func82, Tryd.ntmps82
  go_wp2_with fail
  refine hct.out.mono ?_
  rintro e w1 ⟨so, n, c, rfl, hnc, hst, hsob, hb1⟩
  rw [← hW0'.out] at hb1 hsob
  have hlen : ws.length = n := hst.len
  have hlow1 : Below w.heap.size w w1 := hb0.out.trans (hb1.mono hb0.out.size)
  have hr1 := blk_below hb1 hr0.out (blk_lt hr0.out)
  have hmx := hst.max
  by_cases h3 : n < 3
  · have d3 : decide ((n : Int) < 3) = true := decide_eq_true (by omega)
    have d3' : decide (n < 3) = true := decide_eq_true h3
    have hbad : nodeOf s = none := node_no fun h => by have := h.1; rw [← hws.out] at this; omega
    have b0 : w1.cell? ⟨w.heap.size, 0, none⟩ = some (.string ByteArray.empty) := blk_cell hr1 0
    have b1 : w1.cell? ⟨w.heap.size, 1, none⟩ = some (.int .i64 0) := blk_cell hr1 1
    have b2 : w1.cell? ⟨w.heap.size, 2, none⟩ = some (.int .i64 0) := blk_cell hr1 2
    have b3 : w1.cell? ⟨w.heap.size, 3, none⟩ = some (.int .i64 0) := blk_cell hr1 3
    have b4 : w1.cell? ⟨w.heap.size, 4, none⟩ = some (.int .i64 0) := blk_cell hr1 4
    have b5 : w1.cell? ⟨w.heap.size, 5, none⟩ = some (.slice none 0 0) := blk_cell hr1 5
    have fr := blk_free hr1
    have he : ∀ v0 v1 v2 v3 v4 v5, Below w.heap.size w ((((((w1.setCell ⟨w.heap.size, 0, none⟩ v0).setCell ⟨w.heap.size, 1, none⟩ v1).setCell ⟨w.heap.size, 2, none⟩ v2).setCell ⟨w.heap.size, 3, none⟩ v3).setCell ⟨w.heap.size, 4, none⟩ v4).setCell ⟨w.heap.size, 5, none⟩ v5) := fun v0 v1 v2 v3 v4 v5 =>
      ((((((hlow1).setCell (Nat.le_refl _) _).setCell (Nat.le_refl _) _).setCell (Nat.le_refl _) _).setCell (Nat.le_refl _) _).setCell (Nat.le_refl _) _).setCell (Nat.le_refl _) _
    replace hlow1 := Lib.hid hlow1; replace hr1 := Lib.hid hr1; replace hst := Lib.hid hst; replace hsob := Lib.hid hsob; replace hb1 := Lib.hid hb1; replace hlen := Lib.hid hlen; replace hbad := Lib.hid hbad; replace he := Lib.hid he
    go_wp2
    refine bodyPost_ret (v := .tuple #[Nde.zero.val, .int .i64 50]) (by simp [results, Tryd.results82, go_sem, b0, b1, b2, b3, b4, b5, Nde.zero, V4.zero] <;> rfl) rfl ⟨Nde.zero, 50, rfl, ⟨strs_none _, Nat.le_refl _⟩, he.out _ _ _ _ _ _, fun b off e => (by cases e), .inl ⟨hbad.out, rfl, rfl⟩⟩
  have d3 : decide ((n : Int) < 3) = false := decide_eq_false (by omega)
  have d3' : decide (n < 3) = false := decide_eq_false h3
  obtain ⟨x0, hx0⟩ := hst.get (i := 0) (by omega)
  obtain ⟨b, off, rfl, hbl, a0⟩ := hst.cell 0 x0 hx0
  obtain ⟨rfl, hbge, hblk⟩ := hsob b off rfl
  rw [Nat.add_zero] at a0
  have n0 : 0 < n := by omega
  have n0' : (0 : Int) < n := by omega
  have hw0 : wrd s 0 = x0 := by unfold wrd; rw [← hws.out]; simp [List.getD, hx0]
  have hxs : x0.size ≤ maxLen := by
    have := hsize'.out x0 (List.mem_of_getElem? hx0)
    have : maxLen = 9223372036854775807 := rfl
    omega
  have hcn := rname_any x0 w1 hxs
  obtain ⟨q0, hq0⟩ : ∃ q0, q0 = isName x0 := ⟨_, rfl⟩
  rw [← hq0] at hcn
  replace hlow1 := Lib.hid hlow1; replace hr1 := Lib.hid hr1; replace hst := Lib.hid hst; replace hsob := Lib.hid hsob; replace hb1 := Lib.hid hb1; replace hlen := Lib.hid hlen; replace hx0 := Lib.hid hx0; replace hblk := Lib.hid hblk; replace hw0 := Lib.hid hw0; replace hcn := Lib.hid hcn; replace hq0 := Lib.hid hq0
  go_wp2_with fail
  refine hcn.out.mono ?_
  rintro e w2 ⟨rfl, hb2⟩
  have hlow2 := hlow1.out.trans (hb2.mono hlow1.out.size)
  have hr2 := blk_below hb2 hr1.out (blk_lt hr1.out)
  cases q0 with
  | false =>
    have hbad : nodeOf s = none := node_no fun h => by have := h.2.1; rw [hw0.out, ← hq0.out] at this; cases this
    have b0 : w2.cell? ⟨w.heap.size, 0, none⟩ = some (.string ByteArray.empty) := blk_cell hr2 0
    have b1 : w2.cell? ⟨w.heap.size, 1, none⟩ = some (.int .i64 0) := blk_cell hr2 1
    have b2 : w2.cell? ⟨w.heap.size, 2, none⟩ = some (.int .i64 0) := blk_cell hr2 2
    have b3 : w2.cell? ⟨w.heap.size, 3, none⟩ = some (.int .i64 0) := blk_cell hr2 3
    have b4 : w2.cell? ⟨w.heap.size, 4, none⟩ = some (.int .i64 0) := blk_cell hr2 4
    have b5 : w2.cell? ⟨w.heap.size, 5, none⟩ = some (.slice none 0 0) := blk_cell hr2 5
    have fr := blk_free hr2
    have he : ∀ v0 v1 v2 v3 v4 v5, Below w.heap.size w ((((((w2.setCell ⟨w.heap.size, 0, none⟩ v0).setCell ⟨w.heap.size, 1, none⟩ v1).setCell ⟨w.heap.size, 2, none⟩ v2).setCell ⟨w.heap.size, 3, none⟩ v3).setCell ⟨w.heap.size, 4, none⟩ v4).setCell ⟨w.heap.size, 5, none⟩ v5) := fun v0 v1 v2 v3 v4 v5 =>
      ((((((hlow2).setCell (Nat.le_refl _) _).setCell (Nat.le_refl _) _).setCell (Nat.le_refl _) _).setCell (Nat.le_refl _) _).setCell (Nat.le_refl _) _).setCell (Nat.le_refl _) _
    replace hlow2 := Lib.hid hlow2; replace hr2 := Lib.hid hr2; replace hb2 := Lib.hid hb2; replace hbad := Lib.hid hbad; replace he := Lib.hid he
    go_wp2
    refine bodyPost_ret (v := .tuple #[Nde.zero.val, .int .i64 50]) (by simp [results, Tryd.results82, go_sem, b0, b1, b2, b3, b4, b5, Nde.zero, V4.zero] <;> rfl) rfl ⟨Nde.zero, 50, rfl, ⟨strs_none _, Nat.le_refl _⟩, he.out _ _ _ _ _ _, fun b off e => (by cases e), .inl ⟨hbad.out, rfl, rfl⟩⟩
  | true =>
  obtain ⟨x1, hx1⟩ := hst.out.get (i := 1) (by omega)
  obtain ⟨b', off', e', _, a1⟩ := hst.out.cell 1 x1 hx1
  cases e'
  have c1 := (below_cell hb2 hbl).trans a1
  have n1 : 1 < n := by omega
  have n1' : (1 : Int) < n := by omega
  have hw1 : wrd s 1 = x1 := by unfold wrd; rw [← hws.out]; simp [List.getD, hx1]
  have hx1s := hsize'.out x1 (List.mem_of_getElem? hx1)
  have hcv := rvread_any x1 w2 (by omega)
  have hst2 := hst.out.low hb2
  have hbl2 : b < w2.heap.size := Nat.lt_of_lt_of_le hbl hb2.size
  replace hlow2 := Lib.hid hlow2; replace hr2 := Lib.hid hr2; replace hb2 := Lib.hid hb2; replace hx1 := Lib.hid hx1; replace hw1 := Lib.hid hw1; replace hcv := Lib.hid hcv; replace hst2 := Lib.hid hst2
  clear a1
  rw [Nat.zero_add] at c1
  go_wp2_with fail
  refine hcv.out.mono ?_
  rintro e w3 ⟨rfl, hb3⟩
  obtain ⟨u, hu⟩ : ∃ u : V4, u = (vecOf x1).1 := ⟨_, rfl⟩
  obtain ⟨r, hr⟩ : ∃ r : Int, r = (vecOf x1).2 := ⟨_, rfl⟩
  rw [← hu, ← hr]
  obtain ⟨cb, hcb⟩ := hblk.out
  have hst3 := hst2.out.low hb3
  have hlow3 := hlow2.out.trans (hb3.mono hlow2.out.size)
  obtain ⟨vb, hvb⟩ : ∃ vb, vb = w3.heap.size := ⟨_, rfl⟩
  have hcb3 := blk_below hb3 (blk_below hb2.out hcb (blk_lt hcb)) (Nat.lt_of_lt_of_le (blk_lt hcb) hb2.out.size)
  have hR0 : RnW w vb b ws u (w3.alloc (.cells u.cells 25 (0, 0))) := ⟨hlow3.alloc hlow3.size _, blk_old _ (blk_below hb3 hr2.out (blk_lt hr2.out)), blk_at _ _ hvb, by rw [← hst3.len] at hst3; exact hst3.low ((Below.refl _ _).alloc (Nat.le_refl _) _), cb, blk_old _ hcb3⟩
  have hbge' : w.heap.size < b := by have := blk_lt hr0.out; omega
  have hvbb : vb ≠ w.heap.size := by have := blk_lt hr2.out; have := hb3.size; omega
  have hsl : ∀ w, (Instr.slice 36 (.slice (some ⟨b, 0, none⟩) n c) (some (.int .i64 2)) none none).run Tryd.prog w = .ok (.slice (some ⟨b, 2, none⟩) (n - 2) (c - 2)) w := by
    obtain ⟨ta, h1, h2⟩ := slice_from Tryd.underlying36 hi9 b n c 2 2 rfl (by omega)
    have h3 := h2 (by omega)
    rw [hz91, Nat.mul_one] at h3
    subst h3
    exact h1
  have hsl' := Lib.hid hsl
  clear hsl c1 a0
  replace hb3 := Lib.hid hb3; replace hu := Lib.hid hu; replace hr := Lib.hid hr; replace hcb := Lib.hid hcb; replace hst3 := Lib.hid hst3; replace hlow3 := Lib.hid hlow3; replace hcb3 := Lib.hid hcb3; replace hR0 := Lib.hid hR0
  have hvb' := Lib.hid hvb
  rw [hvb'.out] at hR0
  go_wp2
  rw [← hvb'.out] at hR0 ⊢
  clear hvb
  go_loopw [6, 7, 8] (fun ev i _ wr => ∃ (k : Nat) (E : Int), ev = .int .i64 E ∧ i = .int .i64 k ∧ 2 ≤ k ∧ k ≤ n ∧ Hid (E = 0 ↔ (r = 0 ∧ ∀ j x, 2 ≤ j → j < k → ws[j]? = some x → isName x = true)) ∧ Hid (RnW w vb b ws u wr)) (fun _ i _ _ => n - (intOf i).toNat)
  case atStart => exact ⟨2, r, rfl, rfl, by omega, by omega, ⟨fun h => ⟨h, fun j x h1 h2 => by omega⟩, fun h => h.1⟩, hR0.out⟩
  case round =>
    obtain ⟨k, E, rfl, rfl, hk2, hk, hE, hM⟩ := hrel
    by_cases hc : k < n
    · have hc1 : (k : Int) < n := by omega
      have hk0 : (0 : Int) ≤ (k : Int) := by omega
      have hln := hlen.out
      obtain ⟨y, hy⟩ := hM.out.strs.get (i := k) (by omega)
      obtain ⟨b', off', e', hlt, a0⟩ := hM.out.strs.cell k y hy
      cases e'
      rw [Nat.zero_add] at a0
      have hys : y.size ≤ maxLen := by
        have := hsize'.out y (List.mem_of_getElem? hy)
        have : maxLen = 9223372036854775807 := rfl
        omega
      have hcn := rname_any y wr hys
      obtain ⟨q, hq⟩ : ∃ q, q = isName y := ⟨_, rfl⟩
      rw [← hq] at hcn
      replace hcn := Lib.hid hcn; replace hq := Lib.hid hq; replace hy := Lib.hid hy; replace hln := Lib.hid hln
      go_wp2_with fail
      refine hcn.out.mono ?_
      rintro e wq ⟨rfl, hbq⟩
      have hMq := hM.out.below hbq
      cases q with
      | true =>
        have hE2 : E = 0 ↔ (r = 0 ∧ ∀ j x, 2 ≤ j → j < k + 1 → ws[j]? = some x → isName x = true) := by
          rw [hE.out]
          refine ⟨fun h => ⟨h.1, fun j x h1 h2 h3 => ?_⟩, fun h => ⟨h.1, fun j x h1 h2 h3 => h.2 j x h1 (by omega) h3⟩⟩
          by_cases cc : j = k
          · subst cc; rw [hy.out] at h3; cases h3; exact hq.out.symm
          · exact h.2 j x h1 (by omega) h3
        replace hMq := Lib.hid hMq; replace hE2 := Lib.hid hE2; replace hbq := Lib.hid hbq
        go_wp2
        go_roundw
        case rel => exact ⟨k + 1, E, rfl, by go_num, by omega, by omega, hE2.out, hMq.out⟩
        case measure => simp [intOf]; omega
      | false =>
        have hE2 : (50 : Int) = 0 ↔ (r = 0 ∧ ∀ j x, 2 ≤ j → j < k + 1 → ws[j]? = some x → isName x = true) := by
          refine ⟨fun h => absurd h (by decide), fun h => ?_⟩
          have := h.2 k y hk2 (by omega) hy.out
          rw [← hq.out] at this
          cases this
        replace hMq := Lib.hid hMq; replace hE2 := Lib.hid hE2; replace hbq := Lib.hid hbq
        go_wp2
        go_roundw
        case rel => exact ⟨k + 1, 50, rfl, by go_num, by omega, by omega, hE2.out, hMq.out⟩
        case measure => simp [intOf]; omega
    · have hc1 : ¬ (k : Int) < n := by omega
      have hkn : k = n := by omega
      have hln := hlen.out
      have hok : E = 0 ↔ nodeOk s := by
        rw [hE.out]
        unfold nodeOk
        rw [← hws.out, hw0.out, hw1.out, ← hr.out]
        refine ⟨fun h => ⟨by omega, hq0.out.symm, fun p hp => ?_, h.1⟩, fun h => ⟨h.2.2.2, fun j x h1 h2 h3 => h.2.2.1 x ?_⟩⟩
        · obtain ⟨j, hj, e⟩ := List.getElem_of_mem hp
          rw [List.length_drop] at hj
          rw [List.getElem_drop] at e
          exact h.2 (2 + j) p (by omega) (by omega) (by rw [List.getElem?_eq_getElem (by omega), e])
        · have h4 : (ws.drop 2)[j - 2]? = some x := by rw [List.getElem?_drop, show 2 + (j - 2) = j by omega]; exact h3
          exact List.mem_of_getElem? h4
      have r0 := hM.out.r0
      have b0 : wr.cell? ⟨w.heap.size, 0, none⟩ = some (.string ByteArray.empty) := blk_cell r0 0
      have b1 : wr.cell? ⟨w.heap.size, 1, none⟩ = some (.int .i64 0) := blk_cell r0 1
      have b2 : wr.cell? ⟨w.heap.size, 2, none⟩ = some (.int .i64 0) := blk_cell r0 2
      have b3 : wr.cell? ⟨w.heap.size, 3, none⟩ = some (.int .i64 0) := blk_cell r0 3
      have b4 : wr.cell? ⟨w.heap.size, 4, none⟩ = some (.int .i64 0) := blk_cell r0 4
      have b5 : wr.cell? ⟨w.heap.size, 5, none⟩ = some (.slice none 0 0) := blk_cell r0 5
      have fr := blk_free r0
      by_cases hE0 : E = 0
      · have dE : (E != 0) = false := by simp [hE0]
        have hyes := hok.1 hE0
        have hz := nodeOf_yes hyes
        obtain ⟨b', off', e', hlt, a0⟩ := hM.out.strs.cell 0 x0 hx0.out
        cases e'
        rw [Nat.add_zero] at a0
        have r1 := hM.out.r1
        have q0' : wr.cell? ⟨vb, 0, none⟩ = some (.int .i64 u.a) := blk_cell r1 0
        have q1' : wr.cell? ⟨vb, 1, none⟩ = some (.int .i64 u.b) := blk_cell r1 1
        have q2' : wr.cell? ⟨vb, 2, none⟩ = some (.int .i64 u.c) := blk_cell r1 2
        have q3' : wr.cell? ⟨vb, 3, none⟩ = some (.int .i64 u.d) := blk_cell r1 3
        have hsl := hsl'.out
        obtain ⟨cb2, hcb2⟩ := hM.out.blk
        have hrow : ∀ v0 v1 v2 v3 v4 v5, ((((((wr.setCell ⟨w.heap.size, 0, none⟩ v0).setCell ⟨w.heap.size, 1, none⟩ v1).setCell ⟨w.heap.size, 2, none⟩ v2).setCell ⟨w.heap.size, 3, none⟩ v3).setCell ⟨w.heap.size, 4, none⟩ v4).setCell ⟨w.heap.size, 5, none⟩ v5).heap[b]? = wr.heap[b]? := fun v0 v1 v2 v3 v4 v5 => by
          have hne : b ≠ w.heap.size := by omega
          rw [heap_set_other hne, heap_set_other hne, heap_set_other hne, heap_set_other hne, heap_set_other hne, heap_set_other hne]
        have hsz9 : ∀ v0 v1 v2 v3 v4 v5, ((((((wr.setCell ⟨w.heap.size, 0, none⟩ v0).setCell ⟨w.heap.size, 1, none⟩ v1).setCell ⟨w.heap.size, 2, none⟩ v2).setCell ⟨w.heap.size, 3, none⟩ v3).setCell ⟨w.heap.size, 4, none⟩ v4).setCell ⟨w.heap.size, 5, none⟩ v5).heap.size = wr.heap.size := fun v0 v1 v2 v3 v4 v5 => by simp [World.setCell]
        have he : ∀ v0 v1 v2 v3 v4 v5, Below w.heap.size w ((((((wr.setCell ⟨w.heap.size, 0, none⟩ v0).setCell ⟨w.heap.size, 1, none⟩ v1).setCell ⟨w.heap.size, 2, none⟩ v2).setCell ⟨w.heap.size, 3, none⟩ v3).setCell ⟨w.heap.size, 4, none⟩ v4).setCell ⟨w.heap.size, 5, none⟩ v5) := fun v0 v1 v2 v3 v4 v5 =>
          ((((((hM.out.low).setCell (Nat.le_refl _) _).setCell (Nat.le_refl _) _).setCell (Nat.le_refl _) _).setCell (Nat.le_refl _) _).setCell (Nat.le_refl _) _).setCell (Nat.le_refl _) _
        have hsub := hM.out.strs.sub 2 (by omega)
        replace hrow := Lib.hid hrow; replace hsz9 := Lib.hid hsz9; replace he := Lib.hid he; replace r1 := Lib.hid r1; replace r0 := Lib.hid r0; replace hcb2 := Lib.hid hcb2; replace hok := Lib.hid hok; replace hyes := Lib.hid hyes; replace hz := Lib.hid hz; replace hE0 := Lib.hid hE0; replace hln := Lib.hid hln; replace hkn := Lib.hid hkn; replace hsub := Lib.hid hsub
        go_upto_region 13 with fail
        go_still_tail 7, (by kernel_rfl)
        change wpList _ _ _ _ _ wr.drew
        go_wp2
        refine bodyPost_ret (v := .tuple #[(⟨x0, u, some ⟨b, 2, none⟩, n - 2, c - 2, ws.drop 2⟩ : Nde).val, .int .i64 0]) (by simp [results, Tryd.results82, go_sem, b0, b1, b2, b3, b4, b5]) rfl ⟨⟨x0, u, some ⟨b, 2, none⟩, n - 2, c - 2, ws.drop 2⟩, 0, rfl, ?_⟩
        have hX := hrow.out (.string x0) (.int .i64 u.a) (.int .i64 u.b) (.int .i64 u.c) (.int .i64 u.d) (.slice (some ⟨b, 2, none⟩) (n - 2) (c - 2))
        have hY := hsz9.out (.string x0) (.int .i64 u.a) (.int .i64 u.b) (.int .i64 u.c) (.int .i64 u.d) (.slice (some ⟨b, 2, none⟩) (n - 2) (c - 2))
        have hZ := he.out (.string x0) (.int .i64 u.a) (.int .i64 u.b) (.int .i64 u.c) (.int .i64 u.d) (.slice (some ⟨b, 2, none⟩) (n - 2) (c - 2))
        generalize (((((wr.setCell ⟨w.heap.size, 0, none⟩ (.string x0)).setCell ⟨w.heap.size, 1, none⟩ (.int .i64 u.a)).setCell ⟨w.heap.size, 2, none⟩ (.int .i64 u.b)).setCell ⟨w.heap.size, 3, none⟩ (.int .i64 u.c)).setCell ⟨w.heap.size, 4, none⟩ (.int .i64 u.d)).setCell ⟨w.heap.size, 5, none⟩ (.slice (some ⟨b, 2, none⟩) (n - 2) (c - 2)) = X at hX hY hZ ⊢
        have hS : StrsAt X (some ⟨b, 2, none⟩) (n - 2) (ws.drop 2) := by
          have h := hsub.out
          rw [Nat.zero_add, hln.out] at h
          exact strs_keep h (by omega) fun b' off' e' _ => by cases e'; exact hX
        refine ⟨⟨⟨hS.len, hS.max, hS.cell⟩, by show n - 2 ≤ c - 2; omega⟩, hZ.drew, fun b' off' e' => ?_, .inr ⟨?_, rfl⟩⟩
        · have e2 : b = b' := by injection e' with e'; injection e' with e'
          subst e2
          exact ⟨by omega, cb2, hX.trans hcb2.out⟩
        · rw [hz.out, hw0.out, hw1.out, ← hu.out, ← hws.out]; rfl
      · have dE : (E != 0) = true := by simp [hE0]
        have hbad : nodeOf s = none := node_no fun h => hE0 (hok.2 h)
        have he : ∀ v0 v1 v2 v3 v4 v5, Below w.heap.size w ((((((wr.setCell ⟨w.heap.size, 0, none⟩ v0).setCell ⟨w.heap.size, 1, none⟩ v1).setCell ⟨w.heap.size, 2, none⟩ v2).setCell ⟨w.heap.size, 3, none⟩ v3).setCell ⟨w.heap.size, 4, none⟩ v4).setCell ⟨w.heap.size, 5, none⟩ v5) := fun v0 v1 v2 v3 v4 v5 =>
          ((((((hM.out.low).setCell (Nat.le_refl _) _).setCell (Nat.le_refl _) _).setCell (Nat.le_refl _) _).setCell (Nat.le_refl _) _).setCell (Nat.le_refl _) _).setCell (Nat.le_refl _) _
        replace r0 := Lib.hid r0; replace hbad := Lib.hid hbad; replace he := Lib.hid he; replace hok := Lib.hid hok; replace hE0 := Lib.hid hE0; replace hln := Lib.hid hln; replace hkn := Lib.hid hkn
        go_wp2
        refine bodyPost_ret (v := .tuple #[Nde.zero.val, .int .i64 50]) (by simp [results, Tryd.results82, go_sem, b0, b1, b2, b3, b4, b5, Nde.zero, V4.zero] <;> rfl) rfl ⟨Nde.zero, 50, rfl, ⟨strs_none _, Nat.le_refl _⟩, he.out _ _ _ _ _ _, fun b off e => (by cases e), .inl ⟨hbad.out, rfl, rfl⟩⟩
end Go.Proofs.YteoihdkaoipocaaDoor
