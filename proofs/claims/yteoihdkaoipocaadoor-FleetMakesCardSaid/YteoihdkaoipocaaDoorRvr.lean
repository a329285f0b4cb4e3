/- corveeref03.Read: the amount of a text. -/
import Derived.Test.YteoihdkaoipocaaDoorRfm
namespace Go.Proofs.YteoihdkaoipocaaDoor
open Go.RowKit Go.Maps Go.Shelf

def mx4 (v : V4) (k : Nat) : V4 := ⟨if 0 < k then v.a else 0, if 1 < k then v.b else 0, if 2 < k then v.c else 0, if 3 < k then v.d else 0⟩
structure RvW (w : World) (vb : Nat) (so : Option Addr) (xs : List ByteArray) (v : V4) (W : World) : Prop where
  low : Below w.heap.size w W
  gt : w.heap.size < vb
  r0 : W.heap[w.heap.size]? = some (.cells V4.zero.cells 25 (0, 0))
  r1 : W.heap[vb]? = some (.cells v.cells 25 (0, 0))
  strs : StrsAt W so 4 xs
theorem RvW.below {w W W' : World} {vb : Nat} {so : Option Addr} {xs : List ByteArray} {v : V4} (h : RvW w vb so xs v W) (hb : Below W.heap.size W W') : RvW w vb so xs v W' :=
  ⟨h.low.trans (hb.mono h.low.size), h.gt, blk_below hb h.r0 (blk_lt h.r0), blk_below hb h.r1 (blk_lt h.r1), h.strs.low hb⟩
theorem RvW.set {w W : World} {vb : Nat} {so : Option Addr} {xs : List ByteArray} {v v' : V4} (h : RvW w vb so xs v W) (o : Nat) (x : Value) (e : v.cells.setIfInBounds o x = v'.cells) (hso : ∀ b off, so = some ⟨b, off, none⟩ → b ≠ vb) : RvW w vb so xs v' (W.setCell ⟨vb, o, none⟩ x) :=
  ⟨h.low.setCell (Nat.le_of_lt h.gt) _, h.gt, blk_set_other (Nat.ne_of_lt h.gt) _ h.r0, by rw [blk_set h.r1, e], h.strs.len, h.strs.max, fun i x hx => by
    obtain ⟨b, off, e, hlt, hc⟩ := h.strs.cell i x hx
    exact ⟨b, off, e, by simpa [World.setCell] using hlt, (World.cell?_of_block (a := ⟨b, off + i, none⟩) (w := W) (heap_set_other (hso b off e))).trans hc⟩⟩
theorem okn_no {x : Int} (h : x < 0 ∨ 1073741824 < x) : okn x = false := by
  unfold okn
  rcases h with h | h
  · rw [decide_eq_false (by omega)]; rfl
  · rw [decide_eq_false (p := x ≤ 1073741824) (by omega)]; simp
theorem rv_bad {s : ByteArray} {j : Nat} (hl : (cutAll 44 s.data.toList).length = 4) (hj : j < 4) (h : okn (pnum (cutAll 44 s.data.toList) j) = false) : vecOf s = (V4.zero, 11) := by
  unfold vecOf
  rw [if_pos hl]
  unfold V4.told
  rw [if_neg]
  rw [V4.right, vecP]
  rcases (show j = 0 ∨ j = 1 ∨ j = 2 ∨ j = 3 by omega) with rfl | rfl | rfl | rfl <;> rw [h] <;> simp
theorem rv_good {s : ByteArray} (hl : (cutAll 44 s.data.toList).length = 4) (h : ∀ j, j < 4 → okn (pnum (cutAll 44 s.data.toList) j) = true) : vecOf s = (vecP (cutAll 44 s.data.toList), 0) := by
  unfold vecOf
  rw [if_pos hl]
  unfold V4.told
  rw [if_pos]
  rw [V4.right, vecP, h 0 (by omega), h 1 (by omega), h 2 (by omega), h 3 (by omega)]
  rfl
set_option maxRecDepth 100000 in
set_option maxHeartbeats 6400000 in
theorem rvread_any (s : ByteArray) (w : World) (hs : s.size ≤ 4294967200) : Calls Tryd.prog 110 #[.string s] w fun e w' => e = .returned (.tuple #[(vecOf s).1.val, .int .i64 (vecOf s).2]) ∧ Below w.heap.size w w' := by
  obtain ⟨W0, hW0⟩ : ∃ W0, W0 = w.alloc (.cells V4.zero.cells 25 (0, 0)) := ⟨_, rfl⟩
  have hb0 : Below w.heap.size w W0 := by rw [hW0]; exact (Below.refl _ _).alloc (Nat.le_refl _) _
  have hr0 : W0.heap[w.heap.size]? = some (.cells V4.zero.cells 25 (0, 0)) := by rw [hW0]; exact blk_new _ _
  have hct := rcut_any s 44 W0 (by omega)
  have h44 : (((44 : UInt8).toNat : Nat) : Int) = 44 := rfl
  rw [h44] at hct
  clear h44
  have hsize : ∀ x, x ∈ (cutAll 44 s.data.toList).map ofL → x.size ≤ maxLen := fun x hx => by
    obtain ⟨p, hp, rfl⟩ := List.mem_map.1 hx
    have := cutAll_le hp
    rw [ofL_size]
    have h2 := toL_len s
    have : maxLen = 9223372036854775807 := rfl
    omega
  obtain ⟨L, hL⟩ : ∃ L, L = (cutAll 44 s.data.toList).length := ⟨_, rfl⟩
  rw [hW0] at hct
  have hW0' := Lib.hid hW0
  clear hW0
  replace hb0 := Lib.hid hb0; replace hr0 := Lib.hid hr0; replace hct := Lib.hid hct; replace hL := Lib.hid hL
  have hsize' := Lib.hid hsize
  clear hsize
  go_enter Tryd.func110, Tryd.ntmps110
  go_wp2_with fail
  refine hct.out.mono ?_
  rintro e w1 ⟨so, n, c, rfl, hnc, hst, hsob, hb1⟩
  rw [← hW0'.out] at hb1 hsob
  have hlen : (cutAll 44 s.data.toList).length = n := by have := hst.len; rwa [List.length_map] at this
  have hlow1 : Below w.heap.size w w1 := hb0.out.trans (hb1.mono hb0.out.size)
  have hr1 := blk_below hb1 hr0.out (blk_lt hr0.out)
  have hmx := hst.max
  by_cases h4 : n = 4
  · subst h4
    have hr00 := blk_lt hr1
    have hso : ∀ b off, so = some ⟨b, off, none⟩ → b ≠ w1.heap.size := fun b off e => by
      obtain ⟨x, hx⟩ := hst.get (i := 0) (by omega)
      obtain ⟨b', off', e', hlt, _⟩ := hst.cell 0 x hx
      exact Nat.ne_of_lt (by rw [e] at e'; cases e'; exact hlt)
    obtain ⟨vb, hvb⟩ : ∃ vb, vb = w1.heap.size := ⟨_, rfl⟩
    have hR0 : RvW w vb so ((cutAll 44 s.data.toList).map ofL) (mx4 (vecP (cutAll 44 s.data.toList)) 0) (w1.alloc (.cells V4.zero.cells 25 (0, 0))) :=
      ⟨hlow1.alloc hlow1.size _, by omega, blk_old _ hr1, blk_at _ _ hvb, hst.low ((Below.refl _ _).alloc (Nat.le_refl _) _)⟩
    rw [← hvb] at hso
    have hsize := hsize'.out
    have hbadj : ∀ j, j < 4 → okn (pnum (cutAll 44 s.data.toList) j) = false → vecOf s = (V4.zero, 11) := fun j hj h => rv_bad hlen hj h
    have hgood := rv_good hlen
    have hnum0 : ∀ j x, ((cutAll 44 s.data.toList).map ofL)[j]? = some x → numOf x 10 = pnum (cutAll 44 s.data.toList) j := fun j x hx => by
      rw [List.getElem?_map] at hx
      obtain ⟨p, hp, rfl⟩ := Option.map_eq_some_iff.1 hx
      unfold pnum
      rw [List.getD, hp]; rfl
    obtain ⟨P, hP⟩ : ∃ P, P = vecP (cutAll 44 s.data.toList) := ⟨_, rfl⟩
    rw [← hP] at hR0 hgood
    obtain ⟨pa, pb, pc, pd⟩ := P
    have hpn : ∀ j, j < 4 → pnum (cutAll 44 s.data.toList) j = (V4.get ⟨pa, pb, pc, pd⟩ j) := fun j hj => by
      rw [hP]
      rcases (show j = 0 ∨ j = 1 ∨ j = 2 ∨ j = 3 by omega) with rfl | rfl | rfl | rfl <;> rfl
    have hnum : ∀ j x, ((cutAll 44 s.data.toList).map ofL)[j]? = some x → numOf x 10 = V4.get ⟨pa, pb, pc, pd⟩ j := fun j x hx => by
      rw [hnum0 j x hx]
      refine hpn j ?_
      have := (List.getElem?_eq_some_iff.1 hx).1
      rw [List.length_map, hlen] at this
      exact this
    clear hnum0
    have hbadj' := Lib.hid hbadj
    have hgood' := Lib.hid hgood
    have hnum' := Lib.hid hnum
    have hpn' := Lib.hid hpn
    clear hbadj hgood hnum hpn hsize
    replace hso := Lib.hid hso; replace hlow1 := Lib.hid hlow1; replace hr1 := Lib.hid hr1; replace hst := Lib.hid hst; replace hsob := Lib.hid hsob; replace hb1 := Lib.hid hb1; replace hP := Lib.hid hP; replace hR0 := Lib.hid hR0; replace hlen := Lib.hid hlen
    have hvb' := Lib.hid hvb
    rw [hvb'.out] at hR0
    go_wp2
    rw [← hvb'.out] at hR0 ⊢
    clear hvb
    go_loopw [6] (fun i wq => ∃ j : Nat, j ≤ 4 ∧ i = .int .i64 j ∧ Hid (∀ j', j' < j → okn (pnum (cutAll 44 s.data.toList) j') = true) ∧ Hid (RvW w vb so ((cutAll 44 s.data.toList).map ofL) (mx4 ⟨pa, pb, pc, pd⟩ j) wq)) (fun i _ => 4 - (intOf i).toNat)
    case atStart => exact ⟨0, by omega, rfl, fun j h => absurd h (Nat.not_lt_zero _), hR0.out⟩
    case round =>
      obtain ⟨j, hj, hjv, hok, hM⟩ := hrel
      rcases (show j = 0 ∨ j = 1 ∨ j = 2 ∨ j = 3 ∨ j = 4 by omega) with rfl | rfl | rfl | rfl | rfl
      · have hjv' : u6 = .int .i64 0 := hjv
        clear hjv
        subst hjv'
        obtain ⟨x, hx⟩ := hM.out.strs.get (i := 0) (by omega)
        obtain ⟨b, off, rfl, hb, a0⟩ := hM.out.strs.cell 0 x hx
        try rw [Nat.add_zero] at a0
        have hpx : numOf x 10 = pa := hnum'.out 0 x hx
        have hxz : x.size ≤ maxLen := hsize'.out x (List.mem_of_getElem? hx)
        have hcall : Calls Tryd.prog 143 #[.string x, .int .i64 10] wr fun e w' => e = .returned (.int .i64 (numOf x 10)) ∧ Below wr.heap.size wr w' := rnum_any x 10 wr hxz (by omega)
        rw [hpx] at hcall
        replace hx := Lib.hid hx; replace hpx := Lib.hid hpx; replace hcall := Lib.hid hcall
        go_wp2_with fail
        refine hcall.out.mono ?_
        rintro e wq ⟨rfl, hbq⟩
        have hMq := hM.out.below hbq
        have r1 := hMq.r1
        have r0 := hMq.r0
        have b0 : wq.cell? ⟨w.heap.size, 0, none⟩ = some (.int .i64 0) := blk_cell r0 0
        have b1 : wq.cell? ⟨w.heap.size, 1, none⟩ = some (.int .i64 0) := blk_cell r0 1
        have b2 : wq.cell? ⟨w.heap.size, 2, none⟩ = some (.int .i64 0) := blk_cell r0 2
        have b3 : wq.cell? ⟨w.heap.size, 3, none⟩ = some (.int .i64 0) := blk_cell r0 3
        have fr := blk_free r0
        have fv := blk_free r1
        have q0 : wq.cell? ⟨vb, 0, none⟩ = some (.int .i64 0) := blk_cell r1 0
        have he : ∀ v0 v1 v2 v3, Below w.heap.size w ((((wq.setCell ⟨w.heap.size, 0, none⟩ v0).setCell ⟨w.heap.size, 1, none⟩ v1).setCell ⟨w.heap.size, 2, none⟩ v2).setCell ⟨w.heap.size, 3, none⟩ v3) := fun v0 v1 v2 v3 =>
          (((hMq.low.setCell (Nat.le_refl _) _).setCell (Nat.le_refl _) _).setCell (Nat.le_refl _) _).setCell (Nat.le_refl _) _
        have l1 := blk_lt r1
        have hgt := hMq.gt
        replace hMq := Lib.hid hMq; replace r1 := Lib.hid r1; replace r0 := Lib.hid r0; replace hbq := Lib.hid hbq; replace he := Lib.hid he
        by_cases hlo : pa < 0
        · have dlo : decide (pa < 0) = true := decide_eq_true hlo
          have hbad := hbadj'.out 0 (by omega) (by rw [hpn'.out 0 (by omega)]; exact okn_no (.inl hlo))
          replace hbad := Lib.hid hbad
          go_wp2
          refine bodyPost_ret (v := .tuple #[V4.zero.val, .int .i64 11]) (by simp [results, Tryd.results110, go_sem, b0, b1, b2, b3, V4.zero]) rfl ⟨by rw [hbad.out], he.out _ _ _ _⟩
        · have dlo : decide (pa < 0) = false := decide_eq_false hlo
          by_cases hhi : 1073741824 < pa
          · have dhi : decide (1073741824 < pa) = true := decide_eq_true hhi
            have hbad := hbadj'.out 0 (by omega) (by rw [hpn'.out 0 (by omega)]; exact okn_no (.inr hhi))
            replace hbad := Lib.hid hbad
            go_wp2
            refine bodyPost_ret (v := .tuple #[V4.zero.val, .int .i64 11]) (by simp [results, Tryd.results110, go_sem, b0, b1, b2, b3, V4.zero]) rfl ⟨by rw [hbad.out], he.out _ _ _ _⟩
          · have dhi : decide (1073741824 < pa) = false := decide_eq_false hhi
            have hM2 : RvW w vb (some ⟨b, off, none⟩) ((cutAll 44 s.data.toList).map ofL) (mx4 ⟨pa, pb, pc, pd⟩ 1) (wq.setCell ⟨vb, 0, none⟩ (.int .i64 pa)) := hMq.out.set 0 _ rfl hso.out
            have hok2 : ∀ j, j < 1 → okn (pnum (cutAll 44 s.data.toList) j) = true := fun j hj => by
              by_cases q : j = 0
              · subst q
                rw [hpn'.out 0 (by omega)]
                show okn pa = true
                unfold okn
                rw [decide_eq_true (show (0 : Int) ≤ pa by omega), decide_eq_true (show pa ≤ 1073741824 by omega)]; rfl
              · exact hok.out j (by omega)
            replace hM2 := Lib.hid hM2; replace hok2 := Lib.hid hok2
            go_wp2
            go_roundw
            case rel => exact ⟨1, by omega, rfl, hok2.out, hM2.out⟩
            case measure => simp [intOf]
      · have hjv' : u6 = .int .i64 1 := hjv
        clear hjv
        subst hjv'
        obtain ⟨x, hx⟩ := hM.out.strs.get (i := 1) (by omega)
        obtain ⟨b, off, rfl, hb, a0⟩ := hM.out.strs.cell 1 x hx
        try rw [Nat.add_zero] at a0
        have hpx : numOf x 10 = pb := hnum'.out 1 x hx
        have hxz : x.size ≤ maxLen := hsize'.out x (List.mem_of_getElem? hx)
        have hcall : Calls Tryd.prog 143 #[.string x, .int .i64 10] wr fun e w' => e = .returned (.int .i64 (numOf x 10)) ∧ Below wr.heap.size wr w' := rnum_any x 10 wr hxz (by omega)
        rw [hpx] at hcall
        replace hx := Lib.hid hx; replace hpx := Lib.hid hpx; replace hcall := Lib.hid hcall
        go_wp2_with fail
        refine hcall.out.mono ?_
        rintro e wq ⟨rfl, hbq⟩
        have hMq := hM.out.below hbq
        have r1 := hMq.r1
        have r0 := hMq.r0
        have b0 : wq.cell? ⟨w.heap.size, 0, none⟩ = some (.int .i64 0) := blk_cell r0 0
        have b1 : wq.cell? ⟨w.heap.size, 1, none⟩ = some (.int .i64 0) := blk_cell r0 1
        have b2 : wq.cell? ⟨w.heap.size, 2, none⟩ = some (.int .i64 0) := blk_cell r0 2
        have b3 : wq.cell? ⟨w.heap.size, 3, none⟩ = some (.int .i64 0) := blk_cell r0 3
        have fr := blk_free r0
        have fv := blk_free r1
        have q0 : wq.cell? ⟨vb, 1, none⟩ = some (.int .i64 0) := blk_cell r1 1
        have he : ∀ v0 v1 v2 v3, Below w.heap.size w ((((wq.setCell ⟨w.heap.size, 0, none⟩ v0).setCell ⟨w.heap.size, 1, none⟩ v1).setCell ⟨w.heap.size, 2, none⟩ v2).setCell ⟨w.heap.size, 3, none⟩ v3) := fun v0 v1 v2 v3 =>
          (((hMq.low.setCell (Nat.le_refl _) _).setCell (Nat.le_refl _) _).setCell (Nat.le_refl _) _).setCell (Nat.le_refl _) _
        have l1 := blk_lt r1
        have hgt := hMq.gt
        replace hMq := Lib.hid hMq; replace r1 := Lib.hid r1; replace r0 := Lib.hid r0; replace hbq := Lib.hid hbq; replace he := Lib.hid he
        by_cases hlo : pb < 0
        · have dlo : decide (pb < 0) = true := decide_eq_true hlo
          have hbad := hbadj'.out 1 (by omega) (by rw [hpn'.out 1 (by omega)]; exact okn_no (.inl hlo))
          replace hbad := Lib.hid hbad
          go_wp2
          refine bodyPost_ret (v := .tuple #[V4.zero.val, .int .i64 11]) (by simp [results, Tryd.results110, go_sem, b0, b1, b2, b3, V4.zero]) rfl ⟨by rw [hbad.out], he.out _ _ _ _⟩
        · have dlo : decide (pb < 0) = false := decide_eq_false hlo
          by_cases hhi : 1073741824 < pb
          · have dhi : decide (1073741824 < pb) = true := decide_eq_true hhi
            have hbad := hbadj'.out 1 (by omega) (by rw [hpn'.out 1 (by omega)]; exact okn_no (.inr hhi))
            replace hbad := Lib.hid hbad
            go_wp2
            refine bodyPost_ret (v := .tuple #[V4.zero.val, .int .i64 11]) (by simp [results, Tryd.results110, go_sem, b0, b1, b2, b3, V4.zero]) rfl ⟨by rw [hbad.out], he.out _ _ _ _⟩
          · have dhi : decide (1073741824 < pb) = false := decide_eq_false hhi
            have hM2 : RvW w vb (some ⟨b, off, none⟩) ((cutAll 44 s.data.toList).map ofL) (mx4 ⟨pa, pb, pc, pd⟩ 2) (wq.setCell ⟨vb, 1, none⟩ (.int .i64 pb)) := hMq.out.set 1 _ rfl hso.out
            have hok2 : ∀ j, j < 2 → okn (pnum (cutAll 44 s.data.toList) j) = true := fun j hj => by
              by_cases q : j = 1
              · subst q
                rw [hpn'.out 1 (by omega)]
                show okn pb = true
                unfold okn
                rw [decide_eq_true (show (0 : Int) ≤ pb by omega), decide_eq_true (show pb ≤ 1073741824 by omega)]; rfl
              · exact hok.out j (by omega)
            replace hM2 := Lib.hid hM2; replace hok2 := Lib.hid hok2
            go_wp2
            go_roundw
            case rel => exact ⟨2, by omega, rfl, hok2.out, hM2.out⟩
            case measure => simp [intOf]
      · have hjv' : u6 = .int .i64 2 := hjv
        clear hjv
        subst hjv'
        obtain ⟨x, hx⟩ := hM.out.strs.get (i := 2) (by omega)
        obtain ⟨b, off, rfl, hb, a0⟩ := hM.out.strs.cell 2 x hx
        try rw [Nat.add_zero] at a0
        have hpx : numOf x 10 = pc := hnum'.out 2 x hx
        have hxz : x.size ≤ maxLen := hsize'.out x (List.mem_of_getElem? hx)
        have hcall : Calls Tryd.prog 143 #[.string x, .int .i64 10] wr fun e w' => e = .returned (.int .i64 (numOf x 10)) ∧ Below wr.heap.size wr w' := rnum_any x 10 wr hxz (by omega)
        rw [hpx] at hcall
        replace hx := Lib.hid hx; replace hpx := Lib.hid hpx; replace hcall := Lib.hid hcall
        go_wp2_with fail
        refine hcall.out.mono ?_
        rintro e wq ⟨rfl, hbq⟩
        have hMq := hM.out.below hbq
        have r1 := hMq.r1
        have r0 := hMq.r0
        have b0 : wq.cell? ⟨w.heap.size, 0, none⟩ = some (.int .i64 0) := blk_cell r0 0
        have b1 : wq.cell? ⟨w.heap.size, 1, none⟩ = some (.int .i64 0) := blk_cell r0 1
        have b2 : wq.cell? ⟨w.heap.size, 2, none⟩ = some (.int .i64 0) := blk_cell r0 2
        have b3 : wq.cell? ⟨w.heap.size, 3, none⟩ = some (.int .i64 0) := blk_cell r0 3
        have fr := blk_free r0
        have fv := blk_free r1
        have q0 : wq.cell? ⟨vb, 2, none⟩ = some (.int .i64 0) := blk_cell r1 2
        have he : ∀ v0 v1 v2 v3, Below w.heap.size w ((((wq.setCell ⟨w.heap.size, 0, none⟩ v0).setCell ⟨w.heap.size, 1, none⟩ v1).setCell ⟨w.heap.size, 2, none⟩ v2).setCell ⟨w.heap.size, 3, none⟩ v3) := fun v0 v1 v2 v3 =>
          (((hMq.low.setCell (Nat.le_refl _) _).setCell (Nat.le_refl _) _).setCell (Nat.le_refl _) _).setCell (Nat.le_refl _) _
        have l1 := blk_lt r1
        have hgt := hMq.gt
        replace hMq := Lib.hid hMq; replace r1 := Lib.hid r1; replace r0 := Lib.hid r0; replace hbq := Lib.hid hbq; replace he := Lib.hid he
        by_cases hlo : pc < 0
        · have dlo : decide (pc < 0) = true := decide_eq_true hlo
          have hbad := hbadj'.out 2 (by omega) (by rw [hpn'.out 2 (by omega)]; exact okn_no (.inl hlo))
          replace hbad := Lib.hid hbad
          go_wp2
          refine bodyPost_ret (v := .tuple #[V4.zero.val, .int .i64 11]) (by simp [results, Tryd.results110, go_sem, b0, b1, b2, b3, V4.zero]) rfl ⟨by rw [hbad.out], he.out _ _ _ _⟩
        · have dlo : decide (pc < 0) = false := decide_eq_false hlo
          by_cases hhi : 1073741824 < pc
          · have dhi : decide (1073741824 < pc) = true := decide_eq_true hhi
            have hbad := hbadj'.out 2 (by omega) (by rw [hpn'.out 2 (by omega)]; exact okn_no (.inr hhi))
            replace hbad := Lib.hid hbad
            go_wp2
            refine bodyPost_ret (v := .tuple #[V4.zero.val, .int .i64 11]) (by simp [results, Tryd.results110, go_sem, b0, b1, b2, b3, V4.zero]) rfl ⟨by rw [hbad.out], he.out _ _ _ _⟩
          · have dhi : decide (1073741824 < pc) = false := decide_eq_false hhi
            have hM2 : RvW w vb (some ⟨b, off, none⟩) ((cutAll 44 s.data.toList).map ofL) (mx4 ⟨pa, pb, pc, pd⟩ 3) (wq.setCell ⟨vb, 2, none⟩ (.int .i64 pc)) := hMq.out.set 2 _ rfl hso.out
            have hok2 : ∀ j, j < 3 → okn (pnum (cutAll 44 s.data.toList) j) = true := fun j hj => by
              by_cases q : j = 2
              · subst q
                rw [hpn'.out 2 (by omega)]
                show okn pc = true
                unfold okn
                rw [decide_eq_true (show (0 : Int) ≤ pc by omega), decide_eq_true (show pc ≤ 1073741824 by omega)]; rfl
              · exact hok.out j (by omega)
            replace hM2 := Lib.hid hM2; replace hok2 := Lib.hid hok2
            go_wp2
            go_roundw
            case rel => exact ⟨3, by omega, rfl, hok2.out, hM2.out⟩
            case measure => simp [intOf]
      · have hjv' : u6 = .int .i64 3 := hjv
        clear hjv
        subst hjv'
        obtain ⟨x, hx⟩ := hM.out.strs.get (i := 3) (by omega)
        obtain ⟨b, off, rfl, hb, a0⟩ := hM.out.strs.cell 3 x hx
        try rw [Nat.add_zero] at a0
        have hpx : numOf x 10 = pd := hnum'.out 3 x hx
        have hxz : x.size ≤ maxLen := hsize'.out x (List.mem_of_getElem? hx)
        have hcall : Calls Tryd.prog 143 #[.string x, .int .i64 10] wr fun e w' => e = .returned (.int .i64 (numOf x 10)) ∧ Below wr.heap.size wr w' := rnum_any x 10 wr hxz (by omega)
        rw [hpx] at hcall
        replace hx := Lib.hid hx; replace hpx := Lib.hid hpx; replace hcall := Lib.hid hcall
        go_wp2_with fail
        refine hcall.out.mono ?_
        rintro e wq ⟨rfl, hbq⟩
        have hMq := hM.out.below hbq
        have r1 := hMq.r1
        have r0 := hMq.r0
        have b0 : wq.cell? ⟨w.heap.size, 0, none⟩ = some (.int .i64 0) := blk_cell r0 0
        have b1 : wq.cell? ⟨w.heap.size, 1, none⟩ = some (.int .i64 0) := blk_cell r0 1
        have b2 : wq.cell? ⟨w.heap.size, 2, none⟩ = some (.int .i64 0) := blk_cell r0 2
        have b3 : wq.cell? ⟨w.heap.size, 3, none⟩ = some (.int .i64 0) := blk_cell r0 3
        have fr := blk_free r0
        have fv := blk_free r1
        have q0 : wq.cell? ⟨vb, 3, none⟩ = some (.int .i64 0) := blk_cell r1 3
        have he : ∀ v0 v1 v2 v3, Below w.heap.size w ((((wq.setCell ⟨w.heap.size, 0, none⟩ v0).setCell ⟨w.heap.size, 1, none⟩ v1).setCell ⟨w.heap.size, 2, none⟩ v2).setCell ⟨w.heap.size, 3, none⟩ v3) := fun v0 v1 v2 v3 =>
          (((hMq.low.setCell (Nat.le_refl _) _).setCell (Nat.le_refl _) _).setCell (Nat.le_refl _) _).setCell (Nat.le_refl _) _
        have l1 := blk_lt r1
        have hgt := hMq.gt
        replace hMq := Lib.hid hMq; replace r1 := Lib.hid r1; replace r0 := Lib.hid r0; replace hbq := Lib.hid hbq; replace he := Lib.hid he
        by_cases hlo : pd < 0
        · have dlo : decide (pd < 0) = true := decide_eq_true hlo
          have hbad := hbadj'.out 3 (by omega) (by rw [hpn'.out 3 (by omega)]; exact okn_no (.inl hlo))
          replace hbad := Lib.hid hbad
          go_wp2
          refine bodyPost_ret (v := .tuple #[V4.zero.val, .int .i64 11]) (by simp [results, Tryd.results110, go_sem, b0, b1, b2, b3, V4.zero]) rfl ⟨by rw [hbad.out], he.out _ _ _ _⟩
        · have dlo : decide (pd < 0) = false := decide_eq_false hlo
          by_cases hhi : 1073741824 < pd
          · have dhi : decide (1073741824 < pd) = true := decide_eq_true hhi
            have hbad := hbadj'.out 3 (by omega) (by rw [hpn'.out 3 (by omega)]; exact okn_no (.inr hhi))
            replace hbad := Lib.hid hbad
            go_wp2
            refine bodyPost_ret (v := .tuple #[V4.zero.val, .int .i64 11]) (by simp [results, Tryd.results110, go_sem, b0, b1, b2, b3, V4.zero]) rfl ⟨by rw [hbad.out], he.out _ _ _ _⟩
          · have dhi : decide (1073741824 < pd) = false := decide_eq_false hhi
            have hM2 : RvW w vb (some ⟨b, off, none⟩) ((cutAll 44 s.data.toList).map ofL) (mx4 ⟨pa, pb, pc, pd⟩ 4) (wq.setCell ⟨vb, 3, none⟩ (.int .i64 pd)) := hMq.out.set 3 _ rfl hso.out
            have hok2 : ∀ j, j < 4 → okn (pnum (cutAll 44 s.data.toList) j) = true := fun j hj => by
              by_cases q : j = 3
              · subst q
                rw [hpn'.out 3 (by omega)]
                show okn pd = true
                unfold okn
                rw [decide_eq_true (show (0 : Int) ≤ pd by omega), decide_eq_true (show pd ≤ 1073741824 by omega)]; rfl
              · exact hok.out j (by omega)
            replace hM2 := Lib.hid hM2; replace hok2 := Lib.hid hok2
            go_wp2
            go_roundw
            case rel => exact ⟨4, by omega, rfl, hok2.out, hM2.out⟩
            case measure => simp [intOf]
      · have hjv' : u6 = .int .i64 4 := hjv
        clear hjv
        subst hjv'
        have hg := hgood'.out hok.out
        have r1 := hM.out.r1
        have r0 := hM.out.r0
        have a0 : wr.cell? ⟨vb, 0, none⟩ = some (.int .i64 pa) := blk_cell r1 0
        have a1 : wr.cell? ⟨vb, 1, none⟩ = some (.int .i64 pb) := blk_cell r1 1
        have a2 : wr.cell? ⟨vb, 2, none⟩ = some (.int .i64 pc) := blk_cell r1 2
        have a3 : wr.cell? ⟨vb, 3, none⟩ = some (.int .i64 pd) := blk_cell r1 3
        have b0 : wr.cell? ⟨w.heap.size, 0, none⟩ = some (.int .i64 0) := blk_cell r0 0
        have b1 : wr.cell? ⟨w.heap.size, 1, none⟩ = some (.int .i64 0) := blk_cell r0 1
        have b2 : wr.cell? ⟨w.heap.size, 2, none⟩ = some (.int .i64 0) := blk_cell r0 2
        have b3 : wr.cell? ⟨w.heap.size, 3, none⟩ = some (.int .i64 0) := blk_cell r0 3
        have fr := blk_free r0
        have hgt := hM.out.gt
        have he : ∀ v0 v1 v2 v3, Below w.heap.size w ((((wr.setCell ⟨w.heap.size, 0, none⟩ v0).setCell ⟨w.heap.size, 1, none⟩ v1).setCell ⟨w.heap.size, 2, none⟩ v2).setCell ⟨w.heap.size, 3, none⟩ v3) := fun v0 v1 v2 v3 =>
          (((hM.out.low.setCell (Nat.le_refl _) _).setCell (Nat.le_refl _) _).setCell (Nat.le_refl _) _).setCell (Nat.le_refl _) _
        replace r1 := Lib.hid r1; replace r0 := Lib.hid r0; replace he := Lib.hid he; replace hg := Lib.hid hg
        go_wp2
        refine bodyPost_ret (v := .tuple #[V4.val ⟨pa, pb, pc, pd⟩, .int .i64 0]) (by simp [results, Tryd.results110, go_sem, b0, b1, b2, b3]) rfl ⟨by rw [hg.out], he.out _ _ _ _⟩
  · have hbad := vecOf_no (s := s) (by rw [hlen]; exact h4)
    have d4 : ((n : Int) != 4) = true := by rw [bne_iff_ne]; omega
    have b0 : w1.cell? ⟨w.heap.size, 0, none⟩ = some (.int .i64 0) := blk_cell hr1 0
    have b1 : w1.cell? ⟨w.heap.size, 1, none⟩ = some (.int .i64 0) := blk_cell hr1 1
    have b2 : w1.cell? ⟨w.heap.size, 2, none⟩ = some (.int .i64 0) := blk_cell hr1 2
    have b3 : w1.cell? ⟨w.heap.size, 3, none⟩ = some (.int .i64 0) := blk_cell hr1 3
    have fr := blk_free hr1
    have he : ∀ v0 v1 v2 v3, Below w.heap.size w ((((w1.setCell ⟨w.heap.size, 0, none⟩ v0).setCell ⟨w.heap.size, 1, none⟩ v1).setCell ⟨w.heap.size, 2, none⟩ v2).setCell ⟨w.heap.size, 3, none⟩ v3) := fun v0 v1 v2 v3 =>
      (((hlow1.setCell (Nat.le_refl _) _).setCell (Nat.le_refl _) _).setCell (Nat.le_refl _) _).setCell (Nat.le_refl _) _
    replace hlow1 := Lib.hid hlow1; replace hr1 := Lib.hid hr1; replace hst := Lib.hid hst; replace hsob := Lib.hid hsob; replace hb1 := Lib.hid hb1; replace hlen := Lib.hid hlen; replace hbad := Lib.hid hbad; replace h4 := Lib.hid h4; replace he := Lib.hid he
    go_wp2
    refine bodyPost_ret (v := .tuple #[V4.zero.val, .int .i64 11]) (by simp [results, Tryd.results110, go_sem, b0, b1, b2, b3, V4.zero]) rfl ⟨by rw [hbad.out], he.out _ _ _ _⟩
end Go.Proofs.YteoihdkaoipocaaDoor
