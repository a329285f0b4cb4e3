/- vec.Read: the amount of a text. -/
import Derived.Test.YteoihdkaoipocaaDoorPcs
namespace Go.Proofs.YteoihdkaoipocaaDoor
open Go.RowKit

def pnum (ps : List (List UInt8)) (j : Nat) : Int := numOf (ofL (ps.getD j [])) 10
/-- the four numbers of a text's pieces -/
def vecP (ps : List (List UInt8)) : V4 := ⟨pnum ps 0, pnum ps 1, pnum ps 2, pnum ps 3⟩
/-- what is read: the amount, and the error -/
def vecOf (s : ByteArray) : V4 × Int := if (cutAll 44 s.data.toList).length = 4 then (vecP (cutAll 44 s.data.toList)).told 11 else (V4.zero, 11)
theorem vecOf_no {s : ByteArray} (h : (cutAll 44 s.data.toList).length ≠ 4) : vecOf s = (V4.zero, 11) := if_neg h
theorem getD_app {α : Type} (a : List α) (x : α) (b : List α) (d : α) (k : Nat) (hk : a.length = k) : (a ++ x :: b).getD k d = x := by
  subst hk; simp [List.getD]
theorem getD_old {α : Type} (a b : List α) (d : α) {j : Nat} (hj : j < a.length) : (a ++ b).getD j d = a.getD j d := by
  simp [List.getD, List.getElem?_append_left hj]
structure VrW (w : World) (s0 : ByteArray) (k : Nat) (done : List (List UInt8)) (rest : List UInt8) (f : Nat → Int) (wr : World) : Prop where
  low : Below w.heap.size w wr
  mx : Mx wr
  res : wr.heap[w.heap.size]? = some (.cells V4.zero.cells 25 (0, 0))
  arr : wr.heap[w.heap.size + 1]? = some (.cells #[.int .i64 (f 0), .int .i64 (f 1), .int .i64 (f 2), .int .i64 (f 3)] 25 (0, 0))
  val : ∀ j, j < k → f j = pnum done j
  len : done.length = k
  cut : if k < 4 then cutAll 44 s0.data.toList = done ++ cutAll 44 rest else cutAll 44 s0.data.toList = done
  rlen : rest.length ≤ s0.size
theorem cutAll_pos (x : UInt8) (l : List UInt8) : 1 ≤ (cutAll x l).length := by
  cases h : cutAll x l with
  | nil => exact absurd h (cutAll_ne _ _)
  | cons p ps => simp

theorem below_dn (B : Nat) (w : World) (n : Nat) : Below B w (w.drewN n) := ⟨rfl, rfl, rfl, Nat.le_refl _, fun _ _ => rfl⟩
theorem below_drewT {w w' : World} {n : Nat} (h : Below (w.drewN n).heap.size (w.drewN n) w') : Below w.heap.size w w' := (below_dn _ _ _).trans h

set_option maxRecDepth 100000 in
set_option maxHeartbeats 3200000 in
theorem vread_any (s0 : ByteArray) (w : World) (hm : Mx w) (hs : s0.size ≤ 4294967280) : Calls Tryd.prog 105 #[.string s0] w fun e w' => e = .returned (.tuple #[(vecOf s0).1.val, .int .i64 (vecOf s0).2]) ∧ Below w.heap.size w w' := by
  have hpos := hm.pos
  have h0 : VrW w s0 0 [] s0.data.toList (fun _ => 0) ((w.alloc (.cells V4.zero.cells 25 (0, 0))).alloc (.cells V4.zero.cells 25 (0, 0))) :=
    ⟨((Below.refl _ _).alloc (Nat.le_refl _) _).alloc (by simp) _, hm.low (((Below.refl _ _).alloc (Nat.le_refl _) _).alloc (by simp) _), blk_old _ (blk_new _ _), blk_at _ _ (by simp), fun j hj => absurd hj (Nat.not_lt_zero _), rfl, by simp, Nat.le_refl _⟩
  replace h0 := Lib.hid h0; replace hm := Lib.hid hm; replace hpos := Lib.hid hpos
  go_enter Tryd.func105, Tryd.ntmps105
  go_wp2
  go_loopw [0, 5, 6, 7, 8, 9] (fun sv _ _ _ _ i wr => ∃ (k : Nat) (done : List (List UInt8)) (rest : List UInt8) (f : Nat → Int), k ≤ 4 ∧ i = .int .i64 k ∧ sv = .string (ofL rest) ∧ Hid (VrW w s0 k done rest f wr)) (fun _ _ _ _ _ i _ => 4 - (intOf i).toNat)
  case atStart => exact ⟨0, [], s0.data.toList, fun _ => 0, by omega, rfl, rfl, h0.out⟩
  case round =>
    obtain ⟨k, done, rest, f, hk, rfl, rfl, hV⟩ := hrel
    by_cases h4 : k < 4
    · have hi : (k : Int) < 4 := by omega
      have hct := cut_call (ofL rest) 44 wr hV.out.mx (by rw [ofL_size]; have := hV.out.rlen; omega)
      rw [ofL_toL] at hct
      have hcV := hV.out.cut
      rw [if_pos h4] at hcV
      replace hct := Lib.hid hct; replace hcV := Lib.hid hcV
      go_wp2_with fail
      refine hct.out.mono ?_
      rintro e w1 ⟨⟨a, r, b, rfl, hab⟩, nd, rfl⟩
      have hal : a.length ≤ s0.size ∧ r.length ≤ s0.size := by
        have := hV.out.rlen
        rcases hab with ⟨_, e1, e2, _⟩ | ⟨_, e1, _⟩
        · rw [e1, e2]; exact ⟨this, by simp⟩
        · have e := congrArg List.length e1; simp at e; omega
      by_cases h3 : k < 3
      · have d3 : decide ((k : Int) < 3) = true := decide_eq_true (by omega)
        have d3' : decide (k < 3) = true := decide_eq_true h3
        rcases hab with ⟨rfl, e1, e2, e3⟩ | ⟨rfl, e1, e3⟩
        · have hlen : (cutAll 44 s0.data.toList).length ≠ 4 := by
            rw [hcV.out, ← e1, cutAll_no e3]; simp [hV.out.len]; omega
          replace hlen := Lib.hid hlen; replace e1 := Lib.hid e1; replace e2 := Lib.hid e2; replace e3 := Lib.hid e3; replace hal := Lib.hid hal
          have hz := vecOf_no hlen.out
          have cx := blk_cell hV.out.res
          have fx := blk_free hV.out.res
          have hlow := hV.out.low
          replace hz := Lib.hid hz; replace hlow := Lib.hid hlow
          go_wp2
          refine bodyPost_ret (v := .tuple #[V4.zero.val, .int .i64 11]) (by simp [results, Tryd.results105, go_sem, cx, V4.zero]) rfl ⟨by rw [hz.out], ?_⟩
          exact (((((hlow.out.trans (below_dn _ _ _)).setCell (Nat.le_refl _) _).setCell (Nat.le_refl _) _).setCell (Nat.le_refl _) _).setCell (Nat.le_refl _) _)
        · have hcut : if k + 1 < 4 then cutAll 44 s0.data.toList = (done ++ [a]) ++ cutAll 44 r else cutAll 44 s0.data.toList = done ++ [a] := by
            rw [if_pos (by omega), hcV.out, e1, cutAll_hit e3]; simp
          have hrl : r.length ≤ s0.size := hal.2
          have hal2 := hal.1
          replace hcut := Lib.hid hcut; replace e1 := Lib.hid e1; replace e3 := Lib.hid e3; replace hal := Lib.hid hal; replace hrl := Lib.hid hrl
          clear hal
          have hal := hal2
          replace hal := Lib.hid hal
          clear hal2
          have hva := vnum_any (ofL a) (wr.drewN nd) (by rw [ofL_size]; have := hal.out; have : maxLen = 9223372036854775807 := rfl; omega)
          replace hva := Lib.hid hva
          go_wp2_with fail
          refine hva.out.mono ?_
          rintro e w2 ⟨rfl, hb2⟩
          have hb2' : Below wr.heap.size wr w2 := below_drewT hb2
          have g := blk_below hb2' hV.out.arr (blk_lt hV.out.arr)
          have g2 := blk_below hb2' hV.out.res (blk_lt hV.out.res)
          have cc := blk_cell g
          have ff := blk_free g
          have hlow2 := hV.out.low.trans (hb2'.mono hV.out.low.size)
          have hmx2 := hV.out.mx.low hb2'
          have hpos := hV.out.mx.pos
          obtain ⟨f', hf1, hf2⟩ : ∃ f' : Nat → Int, Hid (∀ j, j < k + 1 → f' j = pnum (done ++ [a]) j) ∧ Hid (∀ j, f' j = if j = k then numOf (ofL a) 10 else f j) := by
            refine ⟨fun j => if j = k then numOf (ofL a) 10 else f j, fun j hj => ?_, fun _ => rfl⟩
            show (if j = k then numOf (ofL a) 10 else f j) = pnum (done ++ [a]) j
            split
            · next h => rw [h]; unfold pnum; rw [getD_app _ _ _ _ _ hV.out.len]
            · rw [hV.out.val j (by omega)]; unfold pnum; rw [getD_old _ _ _ (by rw [hV.out.len]; omega)]
          replace hb2 := Lib.hid hb2; replace hb2' := Lib.hid hb2'; replace g := Lib.hid g; replace g2 := Lib.hid g2; replace hlow2 := Lib.hid hlow2; replace hmx2 := Lib.hid hmx2; replace hpos := Lib.hid hpos
          obtain ⟨W3, hW3⟩ : ∃ W3, W3 = w2.setCell ⟨w.heap.size + 1, k, none⟩ (.int .i64 (numOf (ofL a) 10)) := ⟨_, rfl⟩
          have hV3 : VrW w s0 (k + 1) (done ++ [a]) r f' W3 := by
            rw [hW3]
            refine ⟨hlow2.out.setCell (by simp) _, ?_, blk_set_other (by omega) _ g2.out, ?_, hf1.out, by simp [hV.out.len], hcut.out, hrl.out⟩
            · obtain ⟨m, hm⟩ := hmx2.out
              exact ⟨m, (World.cell?_of_block (a := ⟨0, 0, none⟩) (w := w2) (Below.heap_setCell _ _ _ _ (by simp))).trans hm⟩
            · rw [blk_set g.out]
              rcases lt4 h4 with rfl | rfl | rfl | rfl <;> simp [hf2.out]
          replace hV3 := Lib.hid hV3
          have hW3' := Lib.hid hW3
          clear hW3
          rcases (show k = 0 ∨ k = 1 ∨ k = 2 by omega) with rfl | rfl | rfl
          all_goals
            go_wp2
            try rw [← hW3'.out]
            go_roundw
            case rel => exact ⟨_, _, _, f', by omega, by go_num, rfl, hV3.out⟩
            case measure => simp [intOf]
      · have hk3 : k = 3 := by omega
        have d3 : decide ((k : Int) < 3) = false := decide_eq_false (by omega)
        have d3' : decide (k < 3) = false := decide_eq_false h3
        rcases hab with ⟨rfl, e1, e2, e3⟩ | ⟨rfl, e1, e3⟩
        · have hcut : if k + 1 < 4 then cutAll 44 s0.data.toList = (done ++ [a]) ++ cutAll 44 r else cutAll 44 s0.data.toList = done ++ [a] := by
            rw [if_neg (by omega), hcV.out, ← e1, cutAll_no e3]
          have hrl : r.length ≤ s0.size := hal.2
          have hal2 := hal.1
          replace hcut := Lib.hid hcut; replace e1 := Lib.hid e1; replace e2 := Lib.hid e2; replace e3 := Lib.hid e3; replace hal := Lib.hid hal; replace hrl := Lib.hid hrl; replace hk3 := Lib.hid hk3
          clear hal
          have hal := hal2
          replace hal := Lib.hid hal
          clear hal2
          have hva := vnum_any (ofL a) (wr.drewN nd) (by rw [ofL_size]; have := hal.out; have : maxLen = 9223372036854775807 := rfl; omega)
          replace hva := Lib.hid hva
          go_wp2_with fail
          refine hva.out.mono ?_
          rintro e w2 ⟨rfl, hb2⟩
          have hb2' : Below wr.heap.size wr w2 := below_drewT hb2
          have g := blk_below hb2' hV.out.arr (blk_lt hV.out.arr)
          have g2 := blk_below hb2' hV.out.res (blk_lt hV.out.res)
          have cc := blk_cell g
          have ff := blk_free g
          have hlow2 := hV.out.low.trans (hb2'.mono hV.out.low.size)
          have hmx2 := hV.out.mx.low hb2'
          have hpos := hV.out.mx.pos
          obtain ⟨f', hf1, hf2⟩ : ∃ f' : Nat → Int, Hid (∀ j, j < k + 1 → f' j = pnum (done ++ [a]) j) ∧ Hid (∀ j, f' j = if j = k then numOf (ofL a) 10 else f j) := by
            refine ⟨fun j => if j = k then numOf (ofL a) 10 else f j, fun j hj => ?_, fun _ => rfl⟩
            show (if j = k then numOf (ofL a) 10 else f j) = pnum (done ++ [a]) j
            split
            · next h => rw [h]; unfold pnum; rw [getD_app _ _ _ _ _ hV.out.len]
            · rw [hV.out.val j (by omega)]; unfold pnum; rw [getD_old _ _ _ (by rw [hV.out.len]; omega)]
          replace hb2 := Lib.hid hb2; replace hb2' := Lib.hid hb2'; replace g := Lib.hid g; replace g2 := Lib.hid g2; replace hlow2 := Lib.hid hlow2; replace hmx2 := Lib.hid hmx2; replace hpos := Lib.hid hpos
          obtain ⟨W3, hW3⟩ : ∃ W3, W3 = w2.setCell ⟨w.heap.size + 1, k, none⟩ (.int .i64 (numOf (ofL a) 10)) := ⟨_, rfl⟩
          have hV3 : VrW w s0 (k + 1) (done ++ [a]) r f' W3 := by
            rw [hW3]
            refine ⟨hlow2.out.setCell (by simp) _, ?_, blk_set_other (by omega) _ g2.out, ?_, hf1.out, by simp [hV.out.len], hcut.out, hrl.out⟩
            · obtain ⟨m, hm⟩ := hmx2.out
              exact ⟨m, (World.cell?_of_block (a := ⟨0, 0, none⟩) (w := w2) (Below.heap_setCell _ _ _ _ (by simp))).trans hm⟩
            · rw [blk_set g.out]
              rcases lt4 h4 with rfl | rfl | rfl | rfl <;> simp [hf2.out]
          replace hV3 := Lib.hid hV3
          have hW3' := Lib.hid hW3
          clear hW3
          have hk3' := hk3.out; subst hk3'
          all_goals
            go_wp2
            try rw [← hW3'.out]
            go_roundw
            case rel => exact ⟨_, _, _, f', by omega, by go_num, rfl, hV3.out⟩
            case measure => simp [intOf]
        · have hlen : (cutAll 44 s0.data.toList).length ≠ 4 := by
            rw [hcV.out, e1, cutAll_hit e3]
            have := cutAll_pos 44 r
            simp [hV.out.len]; omega
          replace hlen := Lib.hid hlen; replace e1 := Lib.hid e1; replace e3 := Lib.hid e3; replace hal := Lib.hid hal; replace hk3 := Lib.hid hk3
          have hz := vecOf_no hlen.out
          have cx := blk_cell hV.out.res
          have fx := blk_free hV.out.res
          have hlow := hV.out.low
          replace hz := Lib.hid hz; replace hlow := Lib.hid hlow
          go_wp2
          refine bodyPost_ret (v := .tuple #[V4.zero.val, .int .i64 11]) (by simp [results, Tryd.results105, go_sem, cx, V4.zero]) rfl ⟨by rw [hz.out], ?_⟩
          exact (((((hlow.out.trans (below_dn _ _ _)).setCell (Nat.le_refl _) _).setCell (Nat.le_refl _) _).setCell (Nat.le_refl _) _).setCell (Nat.le_refl _) _)
    · have hi : ¬ (k : Int) < 4 := by omega
      have k4 : k = 4 := by omega
      subst k4
      have hcV := hV.out.cut
      rw [if_neg (by omega)] at hcV
      have hvo : vecOf s0 = (vecP done).told 11 := by unfold vecOf; rw [hcV, if_pos hV.out.len]
      have hv := hV.out.val
      have e0 := hv 0 (by omega); have e1 := hv 1 (by omega); have e2 := hv 2 (by omega); have e3 := hv 3 (by omega)
      have cc := blk_cell hV.out.arr
      obtain ⟨v, hv⟩ : ∃ v : V4, v = vecP done := ⟨_, rfl⟩
      have hc : (#[.int .i64 (f 0), .int .i64 (f 1), .int .i64 (f 2), .int .i64 (f 3)] : Array Value) = v.cells := by rw [hv, e0, e1, e2, e3]; rfl
      rw [hc] at cc
      have hto := told_any v 11 wr
      clear e0 e1 e2 e3 hc
      rw [← hv] at hvo
      replace hcV := Lib.hid hcV; replace hvo := Lib.hid hvo; replace hv := Lib.hid hv; replace hto := Lib.hid hto
      go_wp2_with fail
      refine hto.out.mono ?_
      rintro e w2 ⟨rfl, hb2⟩
      have hlow2 := hV.out.low.trans (hb2.mono hV.out.low.size)
      have g2 := blk_below hb2 hV.out.res (blk_lt hV.out.res)
      clear cc
      have cx := blk_cell g2
      have fx := blk_free g2
      obtain ⟨u, hu⟩ : ∃ u : V4, u = (v.told 11).1 := ⟨_, rfl⟩
      obtain ⟨r, hr⟩ : ∃ r : Int, r = (v.told 11).2 := ⟨_, rfl⟩
      rw [← hu, ← hr]
      have hres : vecOf s0 = (u, r) := by rw [hvo.out, hu, hr]
      replace hb2 := Lib.hid hb2; replace hlow2 := Lib.hid hlow2; replace g2 := Lib.hid g2; replace hu := Lib.hid hu; replace hr := Lib.hid hr; replace hres := Lib.hid hres
      go_wp2
      refine bodyPost_ret (v := .tuple #[u.val, .int .i64 r]) (by simp [results, Tryd.results105, go_sem, cx]) rfl ⟨by rw [hres.out], ?_⟩
      exact ((((hlow2.out.setCell (Nat.le_refl _) _).setCell (Nat.le_refl _) _).setCell (Nat.le_refl _) _).setCell (Nat.le_refl _) _)
end Go.Proofs.YteoihdkaoipocaaDoor
