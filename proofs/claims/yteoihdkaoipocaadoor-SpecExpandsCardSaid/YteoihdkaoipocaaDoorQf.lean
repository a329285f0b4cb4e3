/- Parts Rne, Rex, Exr, Exw, Sxp, Rrs, Wxa, Wxp in one text. Plain theorems: no condition. -/
import Derived.Test.YteoihdkaoipocaaDoorQe
import Derived.Deep.RegionWith
import Derived.Laws.MakeOwn
import Derived.Deep.RegionHeld3
import Derived.Deep.DeepCutAuto
import Derived.Laws.AppendOwnNone
/- corveeref08.Need, Rows. -/
namespace Go.Proofs.YteoihdkaoipocaaDoor
open Go.RowKit Go.Maps Go.Shelf Go.Sort

def nx4 (d : V4) (n : Int) (k : Nat) : V4 := ⟨if 0 < k then d.a * n else d.a, if 1 < k then d.b * n else d.b, if 2 < k then d.c * n else d.c, if 3 < k then d.d * n else d.d⟩
theorem nx4_zero (d : V4) (n : Int) : nx4 d n 0 = d := by simp [nx4]
theorem nx4_four (d : V4) (n : Int) : nx4 d n 4 = ⟨d.a * n, d.b * n, d.c * n, d.d * n⟩ := by simp [nx4]
theorem nx4_step (d : V4) (n : Int) (k : Nat) (hk : k < 4) : (nx4 d n k).cells.setIfInBounds k (.int .i64 (d.get k * n)) = (nx4 d n (k + 1)).cells := by
  rcases (show k = 0 ∨ k = 1 ∨ k = 2 ∨ k = 3 by omega) with rfl | rfl | rfl | rfl <;> simp [nx4, V4.get]
theorem nx4_at (d : V4) (n : Int) (k : Nat) (hk : k < 4) : (nx4 d n k).cells[k]? = some (.int .i64 (d.get k)) := by
  rcases (show k = 0 ∨ k = 1 ∨ k = 2 ∨ k = 3 by omega) with rfl | rfl | rfl | rfl <;> simp [nx4, V4.get]
structure NrW (w : World) (x : Spv) (vb : Nat) (v : V4) (W : World) : Prop where
  low : Below w.heap.size w W
  box : W.heap[w.heap.size]? = some (.cells x.cells 28 (0, 0))
  res : W.heap[w.heap.size + 1]? = some (.cells V4.zero.cells 25 (0, 0))
  vec : W.heap[vb]? = some (.cells v.cells 25 (0, 0))
  lt : w.heap.size + 1 < vb
theorem NrW.set {w W : World} {x : Spv} {vb : Nat} {v v' : V4} (h : NrW w x vb v W) (o : Nat) (z : Value) (e : v.cells.setIfInBounds o z = v'.cells) : NrW w x vb v' (W.setCell ⟨vb, o, none⟩ z) :=
  ⟨h.low.setCell (show w.heap.size ≤ vb by have := h.lt; omega) _, blk_set_other (by have := h.lt; omega) _ h.box, blk_set_other (by have := h.lt; omega) _ h.res, by rw [← e]; exact blk_set h.vec o z, h.lt⟩
theorem NrW.drew {w W : World} {x : Spv} {vb : Nat} {v : V4} (h : NrW w x vb v W) : NrW w x vb v W.drew := ⟨h.low.drew, h.box, h.res, h.vec, h.lt⟩
set_option maxRecDepth 100000 in
set_option maxHeartbeats 1600000 in
theorem rneed_any (x : Spv) (w : World) (hx : x.ok w) : Calls Tryd.prog 43 #[x.val] w fun e w' => e = .returned (needS x.pl).val ∧ Below w.heap.size w w' := by
  obtain ⟨W0, hW0⟩ : ∃ W0, W0 = (w.alloc (.cells x.cells 28 (0, 0))).alloc (.cells V4.zero.cells 25 (0, 0)) := ⟨_, rfl⟩
  have hl0 : Below w.heap.size w W0 := by rw [hW0]; exact ((Below.refl _ _).alloc (Nat.le_refl _) _).alloc (by simp) _
  have hx0 : W0.heap[w.heap.size]? = some (.cells x.cells 28 (0, 0)) := by rw [hW0]; exact blk_old _ (blk_new _ _)
  have hr0 : W0.heap[w.heap.size + 1]? = some (.cells V4.zero.cells 25 (0, 0)) := by rw [hW0]; exact blk_at _ _ (by simp)
  have hk := may_any x W0 (hx.low hl0)
  by_cases hs : mayS x.pl = true
  rotate_left
  · have hte : needS x.pl = V4.zero := if_neg hs
    have he : mayS x.pl = false := by simpa using hs
    rw [he, hW0] at hk
    have hW0' := Lib.hid hW0
    clear hW0
    obtain ⟨⟨user, part, nodes, ⟨da, db, dc, dd⟩, wall, prio, array, retries, held, after⟩, so, n, cp⟩ := x
    replace hte := Lib.hid hte; replace hk := Lib.hid hk; replace hl0 := Lib.hid hl0; replace hx0 := Lib.hid hx0; replace hr0 := Lib.hid hr0; replace hx := Lib.hid hx; replace hs := Lib.hid hs; replace he := Lib.hid he
    go_enter Tryd.func43, Tryd.ntmps43
    go_wp2_with fail
    refine hk.out.mono ?_
    rintro e w1 ⟨rfl, hb⟩
    rw [← hW0'.out] at hb
    have hlow : Below w.heap.size w w1 := hl0.out.trans (hb.mono hl0.out.size)
    have hr := blk_below hb hr0.out (blk_lt hr0.out)
    have r0 : w1.cell? ⟨w.heap.size + 1, 0, none⟩ = some (.int .i64 0) := blk_cell hr 0
    have r1 : w1.cell? ⟨w.heap.size + 1, 1, none⟩ = some (.int .i64 0) := blk_cell hr 1
    have r2 : w1.cell? ⟨w.heap.size + 1, 2, none⟩ = some (.int .i64 0) := blk_cell hr 2
    have r3 : w1.cell? ⟨w.heap.size + 1, 3, none⟩ = some (.int .i64 0) := blk_cell hr 3
    have fr := blk_free hr
    replace hb := Lib.hid hb; replace hlow := Lib.hid hlow; replace hr := Lib.hid hr
    go_wp2
    refine bodyPost_ret (v := V4.zero.val) (by simp [results, Tryd.results43, go_sem, r0, r1, r2, r3, V4.zero]) rfl ⟨by rw [hte.out], ?_⟩
    exact ((((hlow.out.setCell (Nat.le_succ _) _).setCell (Nat.le_succ _) _).setCell (Nat.le_succ _) _).setCell (Nat.le_succ _) _)
  have hte : needS x.pl = ⟨x.pl.dem.a * x.pl.nodes, x.pl.dem.b * x.pl.nodes, x.pl.dem.c * x.pl.nodes, x.pl.dem.d * x.pl.nodes⟩ := if_pos hs
  rw [hs, hW0] at hk
  have hW0' := Lib.hid hW0
  clear hW0
  obtain ⟨_, _, q3, _, q5, _⟩ := mayS_parts hs
  obtain ⟨h1, h2, h3, h4, h5, h6, h7, h8⟩ := capOk_right (demOk_iff.1 q3).1
  obtain ⟨n1, n2⟩ := betw_iff.1 q5
  obtain ⟨⟨user, part, nodes, ⟨da, db, dc, dd⟩, wall, prio, array, retries, held, after⟩, so, n, cp⟩ := x
  simp only at h1 h2 h3 h4 h5 h6 h7 h8 n1 n2
  obtain ⟨ma1, ma2⟩ := mul_bd h1 h2 n1 n2
  obtain ⟨mb1, mb2⟩ := mul_bd h3 h4 n1 n2
  obtain ⟨mc1, mc2⟩ := mul_bd h5 h6 n1 n2
  obtain ⟨md1, md2⟩ := mul_bd h7 h8 n1 n2
  replace hte := Lib.hid hte; replace hk := Lib.hid hk; replace hl0 := Lib.hid hl0; replace hx0 := Lib.hid hx0; replace hr0 := Lib.hid hr0; replace hx := Lib.hid hx; replace hs := Lib.hid hs; replace q3 := Lib.hid q3; replace q5 := Lib.hid q5
  go_enter Tryd.func43, Tryd.ntmps43
  go_wp2_with fail
  refine hk.out.mono ?_
  rintro e w1 ⟨rfl, hb⟩
  rw [← hW0'.out] at hb
  have hx1 := blk_below hb hx0.out (blk_lt hx0.out)
  have hr1 := blk_below hb hr0.out (blk_lt hr0.out)
  have hlow : Below w.heap.size w w1 := hl0.out.trans (hb.mono hl0.out.size)
  have hN1 : NrW w ⟨⟨user, part, nodes, ⟨da, db, dc, dd⟩, wall, prio, array, retries, held, after⟩, so, n, cp⟩ w1.heap.size ⟨da, db, dc, dd⟩ (w1.alloc (.cells #[.int .i64 da, .int .i64 db, .int .i64 dc, .int .i64 dd] 25 (0, 0))) :=
    ⟨hlow.alloc hlow.size _, blk_old _ hx1, blk_old _ hr1, blk_new _ _, blk_lt hr1⟩
  have y3 : w1.cell? ⟨w.heap.size, 3, none⟩ = some (.int .i64 da) := blk_cell hx1 3
  have y4 : w1.cell? ⟨w.heap.size, 4, none⟩ = some (.int .i64 db) := blk_cell hx1 4
  have y5 : w1.cell? ⟨w.heap.size, 5, none⟩ = some (.int .i64 dc) := blk_cell hx1 5
  have y6 : w1.cell? ⟨w.heap.size, 6, none⟩ = some (.int .i64 dd) := blk_cell hx1 6
  replace hb := Lib.hid hb; replace hN1 := Lib.hid hN1; replace hx1 := Lib.hid hx1; replace hr1 := Lib.hid hr1; replace hlow := Lib.hid hlow
  go_wp2
  clear y3 y4 y5 y6
  go_loopw [5] (fun i wr => ∃ k : Nat, i = .int .i64 k ∧ k ≤ 4 ∧ Hid (NrW w ⟨⟨user, part, nodes, ⟨da, db, dc, dd⟩, wall, prio, array, retries, held, after⟩, so, n, cp⟩ w1.heap.size (nx4 ⟨da, db, dc, dd⟩ nodes k) wr)) (fun i _ => 4 - (intOf i).toNat)
  case atStart => exact ⟨0, rfl, by omega, by rw [nx4_zero]; exact hN1.out⟩
  case round =>
    obtain ⟨k, rfl, hk4, hN⟩ := hrel
    by_cases hc : k < 4
    · have hc1 : (k : Int) < 4 := by omega
      have hk0 : (0 : Int) ≤ (k : Int) := by omega
      have hst := hN.out.set k _ (nx4_step ⟨da, db, dc, dd⟩ nodes k hc)
      obtain ⟨y, hy⟩ : ∃ y, y = V4.get ⟨da, db, dc, dd⟩ k := ⟨_, rfl⟩
      have hyb : 0 ≤ y * nodes ∧ y * nodes ≤ 17179869184 := by
        rw [hy]
        rcases (show k = 0 ∨ k = 1 ∨ k = 2 ∨ k = 3 by omega) with rfl | rfl | rfl | rfl
        · exact ⟨ma1, ma2⟩
        · exact ⟨mb1, mb2⟩
        · exact ⟨mc1, mc2⟩
        · exact ⟨md1, md2⟩
      obtain ⟨hy1, hy2⟩ := hyb
      rw [← hy] at hst
      have c2 : wr.cell? ⟨w.heap.size, 2, none⟩ = some (.int .i64 nodes) := blk_cell hN.out.box 2
      have ck : wr.cell? ⟨w1.heap.size, k, none⟩ = some (.int .i64 y) := by rw [blk_cell hN.out.vec, nx4_at _ _ _ hc, hy]
      have fv := blk_free hN.out.vec
      have hwr : IntKind.i64.wrap (y * nodes) = y * nodes := IntWalk.i64_in _ (by omega)
      have hstd := hst.drew
      replace hst := Lib.hid hst; replace hy := Lib.hid hy; replace hstd := Lib.hid hstd
      go_upto_region 8 with fail
      go_region_with (fail)
      all_goals
        go_wp2
        go_roundw
        case rel => exact ⟨k + 1, by go_num, by omega, by first | exact hst.out | exact hstd.out | exact ⟨hst.out.low, hst.out.box, hst.out.res, hst.out.vec, hst.out.lt⟩⟩
        case measure => simp [intOf]; omega
    · have hc1 : ¬ (k : Int) < 4 := by omega
      have hk44 : k = 4 := by omega
      have hN4 := hN.out
      rw [hk44, nx4_four] at hN4
      have hr := hN4.res
      have hv := hN4.vec
      have hlow := hN4.low
      have r0 : wr.cell? ⟨w.heap.size + 1, 0, none⟩ = some (.int .i64 0) := blk_cell hr 0
      have r1 : wr.cell? ⟨w.heap.size + 1, 1, none⟩ = some (.int .i64 0) := blk_cell hr 1
      have r2 : wr.cell? ⟨w.heap.size + 1, 2, none⟩ = some (.int .i64 0) := blk_cell hr 2
      have r3 : wr.cell? ⟨w.heap.size + 1, 3, none⟩ = some (.int .i64 0) := blk_cell hr 3
      have v0 : wr.cell? ⟨w1.heap.size, 0, none⟩ = some (.int .i64 (da * nodes)) := blk_cell hv 0
      have v1 : wr.cell? ⟨w1.heap.size, 1, none⟩ = some (.int .i64 (db * nodes)) := blk_cell hv 1
      have v2 : wr.cell? ⟨w1.heap.size, 2, none⟩ = some (.int .i64 (dc * nodes)) := blk_cell hv 2
      have v3 : wr.cell? ⟨w1.heap.size, 3, none⟩ = some (.int .i64 (dd * nodes)) := blk_cell hv 3
      have fr := blk_free hr
      replace hlow := Lib.hid hlow; replace hr := Lib.hid hr; replace hv := Lib.hid hv; replace hk44 := Lib.hid hk44; replace hN4 := Lib.hid hN4
      go_wp2
      refine bodyPost_ret (v := (⟨da * nodes, db * nodes, dc * nodes, dd * nodes⟩ : V4).val) (by simp [results, Tryd.results43, go_sem, r0, r1, r2, r3]) rfl ⟨by rw [hte.out], ?_⟩
      exact ((((hlow.out.setCell (Nat.le_succ _) _).setCell (Nat.le_succ _) _).setCell (Nat.le_succ _) _).setCell (Nat.le_succ _) _)
end Go.Proofs.YteoihdkaoipocaaDoor

/- corveeref08.Expand. -/
namespace Go.Proofs.YteoihdkaoipocaaDoor
open Go.RowKit Go.Maps Go.Shelf Go.Sort

theorem info28 : (Tryd.prog.info? 28).map (fun i => (i.zero, i.size, i.bytes)) = some (some Spv.zero.val, 13, 136) := by kernel_rfl
theorem spv_new (w : World) (x : Spv) : ∀ j u, x.cells.toList[j]? = some u → (w.alloc (.cells x.cells 28 (0, 0))).cell? ((⟨w.heap.size, 0, none⟩ : Addr).add j) = some u := by
  intro j u hu
  rw [Addr.add_lit, Nat.zero_add, blk_cell (blk_new w _)]
  simpa using hu
theorem spv_one (x : Spv) : ∀ u ∈ x.cells.toList, u.oneCell' = true := by simp [Value.oneCell']
/-- a row of specs of one's own -/
structure OwnS (w : World) (B : Nat) (v : Value) (xs : List Spv) : Prop where
  row : w.ownsRow B 28 13 v xs.length (flatv Spv.cells xs)
theorem ownS_low {w w' : World} {B : Nat} {v : Value} {xs : List Spv} (h : OwnS w B v xs) (hb : Below w.heap.size w w') : OwnS w' B v xs := by
  refine ⟨h.row.1, ?_⟩
  rcases h.row.2 with ⟨hv, h0⟩ | ⟨g, cap, cur, hv, hg, hh, hr⟩
  · exact .inl ⟨hv, h0⟩
  · exact .inr ⟨g, cap, cur, hv, hg, blk_below hb hh (blk_lt hh), hr⟩
def Spv.single (x : Spv) : Spv := ⟨{ x.pl with array := 1 }, x.so, x.n, x.c⟩
def expN (s : Spp) : Nat := if mayS s = true then s.array.toNat else 0
def RexPost (x : Spv) (w : World) (e : Ending) (w' : World) : Prop := ∃ v, e = .returned v ∧ OwnS w' w.heap.size v (List.replicate (expN x.pl) x.single) ∧ Below w.heap.size w w'
set_option maxRecDepth 100000 in
set_option maxHeartbeats 1600000 in
theorem rexp_any (x : Spv) (w : World) (hx : x.ok w) : Calls Tryd.prog 41 #[x.val] w (RexPost x w) := by
  obtain ⟨i28, hi28, hz28, hz281, hz282⟩ := info_parts info28
  have hB0 := BoxC.new w x
  have hk := may_any x _ (hB0.ok hx)
  by_cases hs : mayS x.pl = true
  rotate_left
  · have he : mayS x.pl = false := by simpa using hs
    have hn : expN x.pl = 0 := if_neg hs
    rw [he] at hk
    unfold RexPost
    rw [hn]
    obtain ⟨⟨user, part, nodes, ⟨da, db, dc, dd⟩, wall, prio, array, retries, held, after⟩, so, n, cp⟩ := x
    replace hk := Lib.hid hk; replace hB0 := Lib.hid hB0; replace hx := Lib.hid hx; replace hs := Lib.hid hs; replace he := Lib.hid he; replace hn := Lib.hid hn
    go_enter Tryd.func41, Tryd.ntmps41
    go_wp2_with fail
    refine hk.out.mono ?_
    rintro e w1 ⟨rfl, hb⟩
    have hB1 := hB0.out.below hb
    replace hB1 := Lib.hid hB1; replace hb := Lib.hid hb
    go_wp2
    go_ret
    exact ⟨_, rfl, ⟨rfl, .inl ⟨rfl, rfl⟩⟩, hB1.out.low⟩
  rw [hs] at hk
  obtain ⟨_, _, _, _, _, _, _, q8, _⟩ := mayS_parts hs
  obtain ⟨b1, b2⟩ := betw_iff.1 q8
  obtain ⟨N, hN⟩ : ∃ N : Nat, x.pl.array = N := ⟨x.pl.array.toNat, by omega⟩
  have hn : expN x.pl = N := by unfold expN; rw [if_pos hs, hN]; rfl
  rw [hN] at b1 b2
  obtain ⟨⟨user, part, nodes, ⟨da, db, dc, dd⟩, wall, prio, array, retries, held, after⟩, so, n, cp⟩ := x
  have hN' : array = N := hN
  subst hN'
  clear hN
  obtain ⟨X, hX⟩ : ∃ X : Spv, X = ⟨⟨user, part, nodes, ⟨da, db, dc, dd⟩, wall, prio, 1, retries, held, after⟩, so, n, cp⟩ := ⟨_, rfl⟩
  replace hk := Lib.hid hk; replace hB0 := Lib.hid hB0; replace hx := Lib.hid hx; replace hs := Lib.hid hs; replace q8 := Lib.hid q8; replace hn := Lib.hid hn; replace hX := Lib.hid hX
  go_enter Tryd.func41, Tryd.ntmps41
  go_wp2_with fail
  refine hk.out.mono ?_
  rintro e w1 ⟨rfl, hb⟩
  have hB1 := hB0.out.below hb
  have y6 : w1.cell? ⟨w.heap.size, 9, none⟩ = some (.int .i64 (N : Int)) := blk_cell hB1.box 9
  have fb := blk_free hB1.box
  have hB2 : BoxC w X (w1.setCell ⟨w.heap.size, 9, none⟩ (.int .i64 1)) := by
    rw [hX.out]
    exact ⟨hB1.low.setCell (Nat.le_refl _) _, blk_set hB1.box 9 _⟩
  replace hB1 := Lib.hid hB1; replace hb := Lib.hid hb; replace hB2 := Lib.hid hB2
  go_wp2
  clear y6 fb
  go_loopw [5, 6] (fun ov iv wr => ∃ k : Nat, iv = .int .i64 k ∧ k ≤ N ∧ Hid (BoxC w X wr) ∧ Hid (OwnS wr (w.heap.size + 1) ov (List.replicate k X))) (fun _ iv _ => N - (intOf iv).toNat)
  case atStart => exact ⟨0, rfl, Nat.zero_le _, hB2.out, ⟨rfl, .inl ⟨rfl, rfl⟩⟩⟩
  case round =>
    obtain ⟨k, rfl, hk1, hB, hO⟩ := hrel
    by_cases hc : k < N
    · have hc1 : (k : Int) < N := by omega
      have hbx := hB.out.box
      rw [hX.out] at hbx
      have y0 : wr.cell? ⟨w.heap.size, 0, none⟩ = some (.string user) := blk_cell hbx 0
      have y1 : wr.cell? ⟨w.heap.size, 1, none⟩ = some (.string part) := blk_cell hbx 1
      have y2 : wr.cell? ⟨w.heap.size, 2, none⟩ = some (.int .i64 nodes) := blk_cell hbx 2
      have y3 : wr.cell? ⟨w.heap.size, 3, none⟩ = some (.int .i64 da) := blk_cell hbx 3
      have y4 : wr.cell? ⟨w.heap.size, 4, none⟩ = some (.int .i64 db) := blk_cell hbx 4
      have y5 : wr.cell? ⟨w.heap.size, 5, none⟩ = some (.int .i64 dc) := blk_cell hbx 5
      have y6 : wr.cell? ⟨w.heap.size, 6, none⟩ = some (.int .i64 dd) := blk_cell hbx 6
      have y7 : wr.cell? ⟨w.heap.size, 7, none⟩ = some (.int .i64 wall) := blk_cell hbx 7
      have y8 : wr.cell? ⟨w.heap.size, 8, none⟩ = some (.int .i64 prio) := blk_cell hbx 8
      have y9 : wr.cell? ⟨w.heap.size, 9, none⟩ = some (.int .i64 1) := blk_cell hbx 9
      have y10 : wr.cell? ⟨w.heap.size, 10, none⟩ = some (.int .i64 retries) := blk_cell hbx 10
      have y11 : wr.cell? ⟨w.heap.size, 11, none⟩ = some (.bool held) := blk_cell hbx 11
      have y12 : wr.cell? ⟨w.heap.size, 12, none⟩ = some (.slice so n cp) := blk_cell hbx 12
      obtain ⟨W5, hW5⟩ : ∃ W5, W5 = wr.alloc (.cells (⟨⟨user, part, nodes, ⟨da, db, dc, dd⟩, wall, prio, 1, retries, held, after⟩, so, n, cp⟩ : Spv).cells 28 (0, 0)) := ⟨_, rfl⟩
      have hb5 : Below wr.heap.size wr W5 := by rw [hW5]; exact (Below.refl _ _).alloc (Nat.le_refl _) _
      have hO5 := ownS_low hO.out hb5
      have hlt := blk_lt hB.out.box
      have hownA : W5.ownsRow (w.heap.size + 1) 28 13 u5 k (flatv Spv.cells (List.replicate k X)) := by have := hO5.row; rwa [List.length_replicate] at this
      have hnews : ∀ j u, (⟨⟨user, part, nodes, ⟨da, db, dc, dd⟩, wall, prio, 1, retries, held, after⟩, so, n, cp⟩ : Spv).cells.toList[j]? = some u → W5.cell? ((⟨wr.heap.size, 0, none⟩ : Addr).add j) = some u := by rw [hW5]; exact spv_new wr _
      have hone := spv_one ⟨⟨user, part, nodes, ⟨da, db, dc, dd⟩, wall, prio, 1, retries, held, after⟩, so, n, cp⟩
      have h63 := maxLen_ge (n := k) (by omega)
      have hby : (k + 1) * 136 ≤ 140737488355328 := by omega
      have hbas : w.heap.size + 1 ≤ W5.heap.size := by have := hb5.size; omega
      rw [hW5] at hownA hnews hbas
      have hW5' := Lib.hid hW5
      clear hW5
      replace hbx := Lib.hid hbx; replace hb5 := Lib.hid hb5; replace hO5 := Lib.hid hO5; replace hlt := Lib.hid hlt; replace hownA := Lib.hid hownA; replace hnews := Lib.hid hnews; replace hone := Lib.hid hone; replace h63 := Lib.hid h63; replace hby := Lib.hid hby; replace hbas := Lib.hid hbas; replace hi28 := Lib.hid hi28; replace hz28 := Lib.hid hz28; replace hz281 := Lib.hid hz281; replace hz282 := Lib.hid hz282
      go_wp2_with (at_builtin; refine wpList_append_own _ rfl _ _ 59 rfl (w.heap.size + 1) 28 i28 _ 13 136 Tryd.underlying59 hi28.out hz28.out hz281.out hz282.out rfl (by decide) _ k _ rfl hownA.out ⟨wr.heap.size, 0, none⟩ 1 1 (⟨⟨user, part, nodes, ⟨da, db, dc, dd⟩, wall, prio, 1, retries, held, after⟩, so, n, cp⟩ : Spv).cells.toList rfl rfl hnews.out hone.out h63.out hby.out hbas.out ?_; intro v1 w7 hown7 hgrow _; obtain ⟨g7, cap1, rfl⟩ := Joins.ownsRow_form hown7 (by omega); replace hown7 := Lib.hid hown7; replace hgrow := Lib.hid hgrow)
      have hO7 : OwnS w7 (w.heap.size + 1) (.slice (some ⟨g7, 0, none⟩) (k + 1) cap1) (List.replicate (k + 1) X) := by
        refine ⟨?_⟩
        have h := hown7.out
        rw [← flatv_one Spv.cells, ← flatv_append, ← hX.out, ← List.replicate_succ'] at h
        rw [List.length_replicate]
        exact h
      have hB7 : BoxC w X w7 := by
        have hg := hgrow.out
        rw [← hW5'.out] at hg
        have hBx := hB.out.below hb5.out
        refine ⟨hBx.low.grown hg (by have := hBx.low.size; exact this) (fun j e => by have := (hO5.out.row.lt j e).1; omega), (hg.block _ (blk_lt hBx.box) (fun e => by have := (hO5.out.row.lt _ e.symm).1; omega)).trans hBx.box⟩
      replace hO7 := Lib.hid hO7; replace hB7 := Lib.hid hB7
      clear y0 y1 y2 y3 y4 y5 y6 y7 y8 y9 y10 y11 y12
      go_wp2
      go_roundw
      case rel => exact ⟨k + 1, by go_num, by omega, hB7.out, hO7.out⟩
      case measure => simp [intOf]; omega
    · have hc1 : ¬ (k : Int) < N := by omega
      have hkN : k = N := by omega
      subst hkN
      go_wp2
      go_ret
      refine ⟨u5, rfl, ⟨?_⟩, hB.out.low⟩
      rw [hn.out]
      have h := hO.out.row
      rw [hX.out] at h
      refine ⟨h.1, ?_⟩
      rcases h.2 with h | ⟨g, cap, cur, hv, hg, hh, hr⟩
      · exact .inl h
      · exact .inr ⟨g, cap, cur, hv, by omega, hh, hr⟩
end Go.Proofs.YteoihdkaoipocaaDoor

/- Rows of specs that are written in place. Plain theorems: no condition. -/
namespace Go.Proofs.YteoihdkaoipocaaDoor
open Go.RowKit Go.Maps Go.Shelf Go.Sort

/-- cells stored one behind the other -/
def setsA (c : Array Value) (base : Nat) : List Value → Array Value
  | [] => c
  | v :: vs => setsA (c.setIfInBounds base v) (base + 1) vs
def setRow (W : World) (g base : Nat) : List Value → World
  | [] => W
  | v :: vs => setRow (W.setCell ⟨g, base, none⟩ v) g (base + 1) vs
theorem setsA_size : ∀ (vs : List Value) (c : Array Value) (base : Nat), (setsA c base vs).size = c.size
  | [], _, _ => rfl
  | v :: vs, c, base => by rw [setsA, setsA_size vs]; simp
theorem setsA_low : ∀ (vs : List Value) (c : Array Value) (base i : Nat), i < base → (setsA c base vs)[i]? = c[i]?
  | [], _, _, _, _ => rfl
  | v :: vs, c, base, i, h => by
    rw [setsA, setsA_low vs _ _ _ (by omega), Array.getElem?_setIfInBounds, if_neg (by omega)]
theorem setsA_high : ∀ (vs : List Value) (c : Array Value) (base i : Nat), base + vs.length ≤ i → (setsA c base vs)[i]? = c[i]?
  | [], _, _, _, _ => rfl
  | v :: vs, c, base, i, h => by
    simp only [List.length_cons] at h
    rw [setsA, setsA_high vs _ _ _ (by omega), Array.getElem?_setIfInBounds, if_neg (by omega)]
theorem setsA_at : ∀ (vs : List Value) (c : Array Value) (base o : Nat), o < vs.length → base + vs.length ≤ c.size → (setsA c base vs)[base + o]? = vs[o]?
  | [], _, _, _, h, _ => by simp at h
  | v :: vs, c, base, 0, h, hs => by
    simp only [List.length_cons] at hs
    rw [setsA, setsA_low vs _ _ _ (by omega), Nat.add_zero, Array.getElem?_setIfInBounds, if_pos rfl, if_pos (by omega)]
    rfl
  | v :: vs, c, base, o + 1, h, hs => by
    simp only [List.length_cons] at h hs
    rw [setsA, show base + (o + 1) = base + 1 + o by omega, setsA_at vs _ _ _ (by omega) (by simp; omega)]
    rfl
theorem setRow_row : ∀ (vs : List Value) {W : World} {g base : Nat} {c : Array Value} {T : TypeId} {fr : Nat × Nat}, W.heap[g]? = some (.cells c T fr) → (setRow W g base vs).heap[g]? = some (.cells (setsA c base vs) T fr)
  | [], _, _, _, _, _, _, h => h
  | v :: vs, _, _, base, _, _, _, h => setRow_row vs (blk_set h base v)
theorem setRow_gb : ∀ (vs : List Value) (W : World) (g base : Nat), W.grownBy (setRow W g base vs) (some g)
  | [], W, _, _ => gb_refl W _
  | v :: vs, W, g, base => gb_trans (gb_set (gb_refl W _) v) (setRow_gb vs _ g (base + 1))
/-- a row of so many specs, of which some are written -/
structure SpRow (c : Array Value) (N : Nat) (xs : List Spv) : Prop where
  size : c.size = N * 13
  done : ∀ j y, xs[j]? = some y → ∀ o, o < 13 → c[j * 13 + o]? = y.cells[o]?
  rest : ∀ j, xs.length ≤ j → j < N → ∀ o, o < 13 → c[j * 13 + o]? = Spv.zero.cells[o]?
theorem SpRow.next {c c' : Array Value} {N : Nat} {xs : List Spv} {y : Spv} (h : SpRow c N xs) (hs : c'.size = c.size) (hk : ∀ o, o < 13 → c'[xs.length * 13 + o]? = y.cells[o]?) (ho : ∀ i, i < xs.length * 13 ∨ xs.length * 13 + 13 ≤ i → c'[i]? = c[i]?) : SpRow c' N (xs ++ [y]) := by
  refine ⟨by rw [hs, h.size], fun j z hj o h13 => ?_, fun j hj hjN o h13 => ?_⟩
  · by_cases e : j < xs.length
    · rw [List.getElem?_append_left e] at hj
      rw [ho _ (.inl (by omega))]
      exact h.done j z hj o h13
    · rw [List.getElem?_append_right (by omega)] at hj
      have hj0 : j - xs.length = 0 := by
        have := (List.getElem?_eq_some_iff.1 hj).1
        simp at this
        omega
      rw [hj0] at hj
      have : z = y := by simpa using hj.symm
      subst this
      rw [show j = xs.length by omega]
      exact hk o h13
  · simp only [List.length_append, List.length_cons, List.length_nil] at hj
    rw [ho _ (.inr (by omega))]
    exact h.rest j (by omega) hjN o h13
theorem made_row (N : Nat) : SpRow (madeCells Spv.zero.cells (N * 13)) N [] := by
  refine ⟨size_madeCells _ _, fun j y h => by simp at h, fun j _ hj o ho => ?_⟩
  have hlt : j * 13 + o < N * 13 := by omega
  unfold madeCells
  rw [Array.getElem?_map, Array.getElem?_range, if_pos hlt]
  have hz : Spv.zero.cells.size = 13 := rfl
  have hm : (j * 13 + o) % 13 = o := by omega
  simp only [Option.map_some, hz, hm]
  rw [Array.getElem?_eq_getElem (by rw [hz]; exact ho), getElem!_pos _ _ (by rw [hz]; exact ho)]
end Go.Proofs.YteoihdkaoipocaaDoor

/- spec.Expand: the jobs of an array. -/
namespace Go.Proofs.YteoihdkaoipocaaDoor
open Go.RowKit Go.Maps Go.Shelf Go.Sort

/-- what a copy of numbers is -/
def CloPost (n : Nat) (l : List Int) (W : World) (e : Ending) (w' : World) : Prop :=
  ∃ so' c', e = .returned (.slice so' n c') ∧ n ≤ c' ∧ IntsAt w' so' n l ∧ (∀ b o, so' = some ⟨b, o, none⟩ → o = 0 ∧ W.heap.size ≤ b ∧ b < w'.heap.size ∧ ∃ cc, w'.heap[b]? = some (.cells cc 3 (0, 0))) ∧ Below W.heap.size W w'
theorem cloI_call (so : Option Addr) (n c : Nat) (l : List Int) (W : World) (h : IntsAt W so n l) (hn : n ≤ 1000) : Calls Tryd.prog 88 #[.slice so n c] W (CloPost n l W) := by
  have hl := h.len
  have key : ∀ v' w', w'.ownsRow W.heap.size 3 1 v' n (intsV l) → Below W.heap.size W w' → v' ≠ .slice none 0 0 → CloPost n l W (.returned v') w' := fun v' w' ho hb hne => by
    have hO : OwnI w' W.heap.size v' l := ⟨by rw [hl]; exact ho⟩
    rcases ho.2 with ⟨hv, _⟩ | ⟨g, cap, cur, hv, hg, hh, hcap, _⟩
    · exact absurd hv hne
    · obtain ⟨so2, n2, c2, e2, hnc, hi, hfr⟩ := ownI_form hO
      rw [hv] at e2
      injection e2 with e3 e4 e5
      subst e3; subst e4; subst e5
      refine ⟨_, _, by rw [hv], hnc, hi, fun b o e => ?_, hb⟩
      injection e with e
      injection e with e1 e2
      subst e1; subst e2
      exact ⟨rfl, hg, blk_lt hh, cur, hh⟩
  cases so with
  | none =>
    have h0 : n = 0 := by
      cases n with
      | zero => rfl
      | succ n =>
        obtain ⟨x, hx⟩ := h.get (i := 0) (by omega)
        obtain ⟨b, off, e, _⟩ := h.cell 0 x hx
        cases e
    subst h0
    have : l = [] := List.length_eq_zero_iff.1 hl
    subst this
    refine (Tryd.slices_Clone_int_nil 0 c W).mono ?_
    rintro e w' ⟨rfl, rfl⟩
    exact ⟨none, 0, rfl, Nat.le_refl _, ints_none _, nofun, Below.refl _ _⟩
  | some ad =>
    by_cases h0 : n = 0
    · subst h0
      have : l = [] := List.length_eq_zero_iff.1 hl
      subst this
      refine (Tryd.slices_Clone_int_zero ad c W).mono ?_
      rintro e w' ⟨v', rfl, ho, hne, hb⟩
      exact key v' w' ho hb hne
    · obtain ⟨x, hx⟩ := h.get (i := 0) (by omega)
      obtain ⟨b, off, e, _⟩ := h.cell 0 x hx
      cases e
      refine (Tryd.slices_Clone_int b off n c l W (by omega) (by omega) fun j hj => ?_).mono ?_
      · obtain ⟨b', off', e, _, hc⟩ := h.cell j (l[j]'hj) (by simp [hj])
        cases e
        rw [hc]
        simp [List.getD, hj]
      · rintro e w' ⟨v', rfl, ho, hne, hb⟩
        rw [List.take_of_length_le (by omega)] at ho
        exact key v' w' ho hb hne
/-- what an array's jobs are, so far -/
structure ExpG (w : World) (x : Spv) (g N : Nat) (xs : List Spv) (W : World) : Prop where
  low : Below w.heap.size w W
  glt : w.heap.size < g
  row : ∃ c, W.heap[g]? = some (.cells c 28 (0, 0)) ∧ SpRow c N xs
  one : ∀ (j : Nat) (y : Spv), xs[j]? = some y → y.pl = x.single.pl ∧ y.n = x.n ∧ y.n ≤ y.c ∧ IntsAt W y.so y.n x.pl.after ∧ ∀ b o, y.so = some ⟨b, o, none⟩ → o = 0 ∧ g < b ∧ b < W.heap.size ∧ ∃ cc, W.heap[b]? = some (.cells cc 3 (0, 0))
  apart : ∀ (i j : Nat) (y z : Spv) (b o o' : Nat), xs[i]? = some y → xs[j]? = some z → i < j → y.so = some ⟨b, o, none⟩ → z.so ≠ some ⟨b, o', none⟩
structure ExpW (w : World) (x : Spv) (g N : Nat) (xs : List Spv) (W : World) : Prop extends ExpG w x g N xs W where
  box : W.heap[w.heap.size]? = some (.cells x.cells 28 (0, 0))
def ExpPost (x : Spv) (w : World) (e : Ending) (w' : World) : Prop :=
  (mayS x.pl = false ∧ e = .returned (.slice none 0 0) ∧ Below w.heap.size w w') ∨ (mayS x.pl = true ∧ ∃ g xs, e = .returned (.slice (some ⟨g, 0, none⟩) (expN x.pl) (expN x.pl)) ∧ xs.length = expN x.pl ∧ ExpG w x g (expN x.pl) xs w')
/-- one job more -/
theorem ExpW.next {w : World} {x : Spv} {g N : Nat} {xs : List Spv} {W W5 : World} (h : ExpW w x g N xs W) (hN : xs.length < N) (so' : Option Addr) (c' : Nat) (hnc : x.n ≤ c')
    (hi : IntsAt W5 so' x.n x.pl.after) (hfr : ∀ b o, so' = some ⟨b, o, none⟩ → o = 0 ∧ W.heap.size ≤ b ∧ b < W5.heap.size ∧ ∃ cc, W5.heap[b]? = some (.cells cc 3 (0, 0)))
    (hb : Below ((setRow W g (xs.length * 13) x.cells.toList).setCell ⟨g, xs.length * 13 + 9, none⟩ (.int .i64 1)).heap.size ((setRow W g (xs.length * 13) x.cells.toList).setCell ⟨g, xs.length * 13 + 9, none⟩ (.int .i64 1)) W5) :
    ExpW w x g N (xs ++ [⟨x.single.pl, so', x.n, c'⟩]) (W5.setCell ⟨g, xs.length * 13 + 12, none⟩ (.slice so' x.n c')) := by
  obtain ⟨c, hrow, hsp⟩ := h.row
  have hglt := blk_lt hrow
  have g1 := setRow_gb x.cells.toList W g (xs.length * 13)
  have g2 := gb_set (o := xs.length * 13 + 9) g1 (.int .i64 1)
  have g3 := gb_trans g2 (gb_below hb (some g))
  have g4 := gb_set (o := xs.length * 13 + 12) g3 (.slice so' x.n c')
  have r1 := setRow_row x.cells.toList (base := xs.length * 13) hrow
  have r2 := blk_set r1 (xs.length * 13 + 9) (.int .i64 1)
  have r3 := blk_below hb r2 (blk_lt r2)
  have r4 := blk_set r3 (xs.length * 13 + 12) (.slice so' x.n c')
  have hsz : xs.length * 13 + 13 ≤ c.size := by rw [hsp.size]; omega
  have hkeep : ∀ b, b ≠ g → b < W.heap.size → (W5.setCell ⟨g, xs.length * 13 + 12, none⟩ (.slice so' x.n c')).heap[b]? = W.heap[b]? := fun b hne hlt => g4.block b hlt (fun e => hne (by injection e with e))
  have hsz5 : W.heap.size ≤ W5.heap.size := g3.size
  have hss : (W5.setCell ⟨g, xs.length * 13 + 12, none⟩ (.slice so' x.n c')).heap.size = W5.heap.size := by simp [World.setCell]
  refine ⟨⟨below_gb h.low g4 h.low.size (Nat.le_of_lt h.glt), h.glt, ⟨_, r4, hsp.next (y := ⟨x.single.pl, so', x.n, c'⟩) ?_ ?_ ?_⟩, fun j y hj => ?_, fun i j y z b o o' hi' hj' hij hy hz => ?_⟩, (hkeep _ (by have := h.glt; omega) (blk_lt h.box)).trans h.box⟩
  · simp [setsA_size]
  · intro o ho
    have hlen : x.cells.toList.length = 13 := rfl
    rw [Array.getElem?_setIfInBounds]
    by_cases e12 : o = 12
    · subst e12
      rw [if_pos rfl, if_pos (by simp [setsA_size]; omega)]
      rfl
    · rw [if_neg (by omega), Array.getElem?_setIfInBounds]
      by_cases e9 : o = 9
      · subst e9
        rw [if_pos rfl, if_pos (by rw [setsA_size]; omega)]
        rfl
      · rw [if_neg (by omega), setsA_at _ _ _ _ (by rw [hlen]; omega) (by rw [hlen]; omega)]
        rcases (show o = 0 ∨ o = 1 ∨ o = 2 ∨ o = 3 ∨ o = 4 ∨ o = 5 ∨ o = 6 ∨ o = 7 ∨ o = 8 ∨ o = 10 ∨ o = 11 by omega) with rfl | rfl | rfl | rfl | rfl | rfl | rfl | rfl | rfl | rfl | rfl <;> rfl
  · intro i hi'
    have hlen : x.cells.toList.length = 13 := rfl
    rw [Array.getElem?_setIfInBounds, if_neg (by omega), Array.getElem?_setIfInBounds, if_neg (by omega)]
    rcases hi' with h1 | h1
    · exact setsA_low _ _ _ _ h1
    · exact setsA_high _ _ _ _ (by rw [hlen]; omega)
  · by_cases e : j < xs.length
    · rw [List.getElem?_append_left e] at hj
      obtain ⟨a1, a2, a3, a4, a5⟩ := h.one j y hj
      refine ⟨a1, a2, a3, ints_gb a4 g4 fun b o e => by have := (a5 b o e).2.1; omega, fun b o e => ?_⟩
      obtain ⟨b1, b2, b3, cc, b4⟩ := a5 b o e
      exact ⟨b1, b2, by rw [hss]; omega, cc, (hkeep b (by omega) b3).trans b4⟩
    · rw [List.getElem?_append_right (by omega)] at hj
      have hj0 : j - xs.length = 0 := by
        have := (List.getElem?_eq_some_iff.1 hj).1
        simp at this
        omega
      rw [hj0] at hj
      have hy : y = ⟨x.single.pl, so', x.n, c'⟩ := by simpa using hj.symm
      subst hy
      have hne : ∀ b o, so' = some ⟨b, o, none⟩ → b ≠ g := fun b o e => by have := (hfr b o e).2.1; omega
      refine ⟨rfl, rfl, hnc, ints_gb hi (gb_set (gb_refl W5 (some g)) _) hne, fun b o e => ?_⟩
      obtain ⟨b1, b2, b3, cc, b4⟩ := hfr b o e
      exact ⟨b1, by omega, by rw [hss]; exact b3, cc, blk_set_other (hne b o e) _ b4⟩
  · by_cases e : j < xs.length
    · rw [List.getElem?_append_left e] at hj'
      rw [List.getElem?_append_left (by omega)] at hi'
      exact h.apart i j y z b o o' hi' hj' hij hy hz
    · rw [List.getElem?_append_right (by omega)] at hj'
      have hj0 : j - xs.length = 0 := by
        have := (List.getElem?_eq_some_iff.1 hj').1
        simp at this
        omega
      rw [hj0] at hj'
      have hzz : z = ⟨x.single.pl, so', x.n, c'⟩ := by simpa using hj'.symm
      subst hzz
      have hi2 : i < xs.length := by
        have := (List.getElem?_eq_some_iff.1 hj').1
        omega
      rw [List.getElem?_append_left hi2] at hi'
      have q1 := ((h.one i y hi').2.2.2.2 b o hy).2.2.1
      have q2 := (hfr b o' hz).2.1
      omega
end Go.Proofs.YteoihdkaoipocaaDoor

/- spec.Expand, its walk. -/
namespace Go.Proofs.YteoihdkaoipocaaDoor
open Go.RowKit Go.Maps Go.Shelf Go.Sort

theorem run_make_rowN28 (i : TypeInfo) (hi : Tryd.prog.info? 28 = some i) (hz : i.zero = some Spv.zero.val) (hs : i.size = 13) (hb : i.bytes = 136) (n : Nat) (hn : n ≤ 1000) (w : World) :
    (Instr.makeSlice 59 (.int .i64 (n : Int)) (.int .i64 (n : Int))).run Tryd.prog w = .ok (.slice (some ⟨w.heap.size, 0, none⟩) n n) (w.alloc (.cells (madeCells Spv.zero.cells (n * 13)) 28 (0, 0))) := by
  have hr := run_make (P := Tryd.prog) w 59 28 i Spv.zero.val Tryd.underlying59 hi hz .i64 .i64 (n : Int) (n : Int) (by omega) (by omega) (by rw [hb]; omega) (by omega)
  simp only [Int.toNat_natCast, hs] at hr
  exact hr
set_option maxRecDepth 100000 in
set_option maxHeartbeats 3200000 in
theorem exp_any (x : Spv) (w : World) (hx : x.ok w) : Calls Tryd.prog 39 #[x.val] w (ExpPost x w) := by
  obtain ⟨i28, hi28, hz28, hz281, hz282⟩ := info_parts info28
  have hB0 := BoxC.new w x
  have hk := check_any x _ (hB0.ok hx)
  by_cases hs : mayS x.pl = true
  rotate_left
  · have hs0 : mayS x.pl = false := by simpa using hs
    have he : errS x.pl = 80 := if_neg hs
    rw [he] at hk
    obtain ⟨⟨user, part, nodes, ⟨da, db, dc, dd⟩, wall, prio, array, retries, held, after⟩, so, n, cp⟩ := x
    replace hk := Lib.hid hk; replace hB0 := Lib.hid hB0; replace hx := Lib.hid hx; replace hs := Lib.hid hs; replace hs0 := Lib.hid hs0; replace he := Lib.hid he
    go_enter Tryd.func39, Tryd.ntmps39
    go_wp2_with fail
    refine hk.out.mono ?_
    rintro e w1 ⟨rfl, hb⟩
    have hB1 := hB0.out.below hb
    replace hB1 := Lib.hid hB1; replace hb := Lib.hid hb
    go_wp2
    go_ret
    exact .inl ⟨hs0.out, rfl, hB1.out.low⟩
  have he : errS x.pl = 0 := if_pos hs
  rw [he] at hk
  obtain ⟨_, _, _, q4, _, _, _, q8, _⟩ := mayS_parts hs
  have hw8 := waits_len q4
  have hal := hx.after.len
  obtain ⟨b1, b2⟩ := betw_iff.1 q8
  obtain ⟨N, hN⟩ : ∃ N : Nat, x.pl.array = N := ⟨x.pl.array.toNat, by omega⟩
  have hn : expN x.pl = N := by unfold expN; rw [if_pos hs, hN]; rfl
  rw [hN] at b1 b2
  obtain ⟨⟨user, part, nodes, ⟨da, db, dc, dd⟩, wall, prio, array, retries, held, after⟩, so, n, cp⟩ := x
  have hN' : array = N := hN
  subst hN'
  clear hN
  have hn8 : n ≤ 8 := by
    have h1 : after.length = n := hal
    have h2 : after.length ≤ 8 := hw8
    omega
  obtain ⟨X, hX⟩ : ∃ X : Spv, X = ⟨⟨user, part, nodes, ⟨da, db, dc, dd⟩, wall, prio, (N : Int), retries, held, after⟩, so, n, cp⟩ := ⟨_, rfl⟩
  have hmk := fun W => run_make_rowN28 i28 hi28 hz28 hz281 hz282 N (by omega) W
  have hN20 : N ≤ 20 := by omega
  replace hk := Lib.hid hk; replace hB0 := Lib.hid hB0; replace hx := Lib.hid hx; replace hs := Lib.hid hs; replace he := Lib.hid he; replace q4 := Lib.hid q4; replace hw8 := Lib.hid hw8; replace hal := Lib.hid hal; replace q8 := Lib.hid q8; replace hn := Lib.hid hn; replace hX := Lib.hid hX; replace hi28 := Lib.hid hi28; replace hz28 := Lib.hid hz28; replace hz281 := Lib.hid hz281; replace hz282 := Lib.hid hz282
  go_enter Tryd.func39, Tryd.ntmps39
  go_wp2_with fail
  refine hk.out.mono ?_
  rintro e w1 ⟨rfl, hb⟩
  have hB1 := hB0.out.below hb
  have y9 : w1.cell? ⟨w.heap.size, 9, none⟩ = some (.int .i64 (N : Int)) := blk_cell hB1.box 9
  obtain ⟨g, hg⟩ : ∃ g, g = w1.heap.size := ⟨_, rfl⟩
  have hE0 : ExpW w X g N [] (w1.alloc (.cells (madeCells Spv.zero.cells (N * 13)) 28 (0, 0))) := by
    rw [hX.out, hg]
    exact ⟨⟨hB1.low.alloc hB1.low.size _, blk_lt hB1.box, ⟨_, blk_new _ _, made_row N⟩, (fun j y h => by simp at h), (fun i j y z b o o' h => by simp at h)⟩, blk_old _ hB1.box⟩
  replace hB1 := Lib.hid hB1; replace hb := Lib.hid hb; replace hE0 := Lib.hid hE0; replace hg := Lib.hid hg
  go_wp2
  rw [← hg.out]
  clear y9
  go_loopw [4, 13] (fun _ iv wr => ∃ (k : Nat) (xs : List Spv), iv = .int .i64 k ∧ k ≤ N ∧ Hid (xs.length = k) ∧ Hid (ExpW w X g N xs wr)) (fun _ iv _ => N - (intOf iv).toNat)
  case atStart => exact ⟨0, [], rfl, Nat.zero_le _, rfl, hE0.out⟩
  case round =>
    obtain ⟨k, xs, rfl, hk1, hxs, hE⟩ := hrel
    by_cases hc : k < N
    · have hc1 : (k : Int) < N := by omega
      have hk0 : (0 : Int) ≤ (k : Int) := by omega
      have hM : Hid (BoxC w ⟨⟨user, part, nodes, ⟨da, db, dc, dd⟩, wall, prio, (N : Int), retries, held, after⟩, so, n, cp⟩ wr) := by
        have h := hE.out.box
        rw [hX.out] at h
        exact ⟨hE.out.low, h⟩
      obtain ⟨cc, hrow, hsp⟩ := hE.out.row
      have hxl : xs.length ≤ k := Nat.le_of_eq hxs.out
      have y0 : wr.cell? ⟨w.heap.size, 0, none⟩ = some (.string user) := blk_cell hM.out.box 0
      have y1 : wr.cell? ⟨w.heap.size, 1, none⟩ = some (.string part) := blk_cell hM.out.box 1
      have y2 : wr.cell? ⟨w.heap.size, 2, none⟩ = some (.int .i64 nodes) := blk_cell hM.out.box 2
      have y3 : wr.cell? ⟨w.heap.size, 3, none⟩ = some (.int .i64 da) := blk_cell hM.out.box 3
      have y4 : wr.cell? ⟨w.heap.size, 4, none⟩ = some (.int .i64 db) := blk_cell hM.out.box 4
      have y5 : wr.cell? ⟨w.heap.size, 5, none⟩ = some (.int .i64 dc) := blk_cell hM.out.box 5
      have y6 : wr.cell? ⟨w.heap.size, 6, none⟩ = some (.int .i64 dd) := blk_cell hM.out.box 6
      have y7 : wr.cell? ⟨w.heap.size, 7, none⟩ = some (.int .i64 wall) := blk_cell hM.out.box 7
      have y8 : wr.cell? ⟨w.heap.size, 8, none⟩ = some (.int .i64 prio) := blk_cell hM.out.box 8
      have y9 : wr.cell? ⟨w.heap.size, 9, none⟩ = some (.int .i64 (N : Int)) := blk_cell hM.out.box 9
      have y10 : wr.cell? ⟨w.heap.size, 10, none⟩ = some (.int .i64 retries) := blk_cell hM.out.box 10
      have y11 : wr.cell? ⟨w.heap.size, 11, none⟩ = some (.bool held) := blk_cell hM.out.box 11
      have y12 : wr.cell? ⟨w.heap.size, 12, none⟩ = some (.slice so n cp) := blk_cell hM.out.box 12
      have z0 : wr.cell? ⟨g, k * 13, none⟩ = some (.string ByteArray.empty) := (blk_cell hrow (k * 13)).trans (hsp.rest k hxl hc 0 (by omega))
      have z1 : wr.cell? ⟨g, k * 13 + 1, none⟩ = some (.string ByteArray.empty) := (blk_cell hrow (k * 13 + 1)).trans (hsp.rest k hxl hc 1 (by omega))
      have z2 : wr.cell? ⟨g, k * 13 + 2, none⟩ = some (.int .i64 0) := (blk_cell hrow (k * 13 + 2)).trans (hsp.rest k hxl hc 2 (by omega))
      have z3 : wr.cell? ⟨g, k * 13 + 3, none⟩ = some (.int .i64 0) := (blk_cell hrow (k * 13 + 3)).trans (hsp.rest k hxl hc 3 (by omega))
      have z4 : wr.cell? ⟨g, k * 13 + 4, none⟩ = some (.int .i64 0) := (blk_cell hrow (k * 13 + 4)).trans (hsp.rest k hxl hc 4 (by omega))
      have z5 : wr.cell? ⟨g, k * 13 + 5, none⟩ = some (.int .i64 0) := (blk_cell hrow (k * 13 + 5)).trans (hsp.rest k hxl hc 5 (by omega))
      have z6 : wr.cell? ⟨g, k * 13 + 6, none⟩ = some (.int .i64 0) := (blk_cell hrow (k * 13 + 6)).trans (hsp.rest k hxl hc 6 (by omega))
      have z7 : wr.cell? ⟨g, k * 13 + 7, none⟩ = some (.int .i64 0) := (blk_cell hrow (k * 13 + 7)).trans (hsp.rest k hxl hc 7 (by omega))
      have z8 : wr.cell? ⟨g, k * 13 + 8, none⟩ = some (.int .i64 0) := (blk_cell hrow (k * 13 + 8)).trans (hsp.rest k hxl hc 8 (by omega))
      have z9 : wr.cell? ⟨g, k * 13 + 9, none⟩ = some (.int .i64 0) := (blk_cell hrow (k * 13 + 9)).trans (hsp.rest k hxl hc 9 (by omega))
      have z10 : wr.cell? ⟨g, k * 13 + 10, none⟩ = some (.int .i64 0) := (blk_cell hrow (k * 13 + 10)).trans (hsp.rest k hxl hc 10 (by omega))
      have z11 : wr.cell? ⟨g, k * 13 + 11, none⟩ = some (.bool false) := (blk_cell hrow (k * 13 + 11)).trans (hsp.rest k hxl hc 11 (by omega))
      have z12 : wr.cell? ⟨g, k * 13 + 12, none⟩ = some (.slice none 0 0) := (blk_cell hrow (k * 13 + 12)).trans (hsp.rest k hxl hc 12 (by omega))
      have fg := blk_free hrow
      have hgw : g ≠ w.heap.size := by have := hE.out.glt; omega
      obtain ⟨W4, hW4⟩ : ∃ W4, W4 = ((((((((((((((wr.setCell ⟨g, k * 13, none⟩ (.string user)).setCell ⟨g, k * 13 + 1, none⟩ (.string part)).setCell ⟨g, k * 13 + 2, none⟩ (.int .i64 nodes)).setCell ⟨g, k * 13 + 3, none⟩ (.int .i64 da)).setCell ⟨g, k * 13 + 4, none⟩ (.int .i64 db)).setCell ⟨g, k * 13 + 5, none⟩ (.int .i64 dc)).setCell ⟨g, k * 13 + 6, none⟩ (.int .i64 dd)).setCell ⟨g, k * 13 + 7, none⟩ (.int .i64 wall)).setCell ⟨g, k * 13 + 8, none⟩ (.int .i64 prio)).setCell ⟨g, k * 13 + 9, none⟩ (.int .i64 (N : Int))).setCell ⟨g, k * 13 + 10, none⟩ (.int .i64 retries)).setCell ⟨g, k * 13 + 11, none⟩ (.bool held)).setCell ⟨g, k * 13 + 12, none⟩ (.slice so n cp)).setCell ⟨g, k * 13 + 9, none⟩ (.int .i64 1)) := ⟨_, rfl⟩
      have hW4e : W4 = (setRow wr g (xs.length * 13) X.cells.toList).setCell ⟨g, xs.length * 13 + 9, none⟩ (.int .i64 1) := by
        rw [hW4, hX.out, hxs.out]; rfl
      have hg4 : wr.grownBy W4 (some g) := by rw [hW4e]; exact gb_set (setRow_gb _ _ _ _) _
      have hlow4 : Below w.heap.size w W4 := below_gb hE.out.low hg4 hE.out.low.size (Nat.le_of_lt hE.out.glt)
      have hi4 : IntsAt W4 so n after := (hx.out.low hlow4).after
      have hcl := cloI_call so n cp after W4 hi4 (by omega)
      unfold CloPost at hcl
      have hx4 : W4.heap[w.heap.size]? = some (.cells (⟨⟨user, part, nodes, ⟨da, db, dc, dd⟩, wall, prio, (N : Int), retries, held, after⟩, so, n, cp⟩ : Spv).cells 28 (0, 0)) := (hg4.block _ (blk_lt hM.out.box) (fun e => hgw (by injection e with e; exact e.symm))).trans hM.out.box
      have hr4 : ∃ c4, W4.heap[g]? = some (.cells c4 28 (0, 0)) ∧ c4.size = N * 13 := by
        rw [hW4e]
        exact ⟨_, blk_set (setRow_row _ hrow) _ _, by simp [setsA_size, hsp.size]⟩
      obtain ⟨c4, hr4, hs4⟩ := hr4
      obtain ⟨x12, hx12⟩ : ∃ x12, c4[k * 13 + 12]? = some x12 := ⟨_, Array.getElem?_eq_getElem (by omega)⟩
      replace hM := Lib.hid hM; replace hrow := Lib.hid hrow; replace hsp := Lib.hid hsp; replace hxl := Lib.hid hxl; replace hW4e := Lib.hid hW4e; replace hg4 := Lib.hid hg4; replace hlow4 := Lib.hid hlow4; replace hi4 := Lib.hid hi4; replace hcl := Lib.hid hcl; replace hx4 := Lib.hid hx4; replace hr4 := Lib.hid hr4; replace hs4 := Lib.hid hs4; replace hx12 := Lib.hid hx12
      go_upto_region 9 with fail
      rw [← hW4]
      have hW4' := Lib.hid hW4
      clear hW4
      clear y0 y1 y2 y3 y4 y5 y6 y7 y8 y9 y10 y11 y12 z0 z1 z2 z3 z4 z5 z6 z7 z8 z9 z10 z11 z12
      have y12 : W4.cell? ⟨w.heap.size, 12, none⟩ = some (.slice so n cp) := blk_cell hx4.out 12
      go_wp2_with fail
      refine hcl.out.mono ?_
      rintro e w5 ⟨so', c', rfl, hnc, hi5, hfr5, hb5⟩
      have h5 := blk_below hb5 hr4.out (blk_lt hr4.out)
      have z12 : w5.cell? ⟨g, k * 13 + 12, none⟩ = some x12 := (blk_cell h5 _).trans hx12.out
      have f5 := blk_free h5
      have hnx : ExpW w X g N (xs ++ [⟨X.single.pl, so', n, c'⟩]) (w5.setCell ⟨g, k * 13 + 12, none⟩ (.slice so' n c')) := by
        have hb5' := hb5
        rw [hW4e.out] at hb5'
        have hXn : X.n = n := by rw [hX.out]
        have hXa : X.pl.after = after := by rw [hX.out]
        have h := hE.out.next (by rw [hxs.out]; exact hc) so' c' (by rw [hXn]; exact hnc) (by rw [hXn, hXa]; exact hi5) (fun b o e => by
          obtain ⟨e1, e2, e3, e4⟩ := hfr5 b o e
          exact ⟨e1, Nat.le_trans hg4.out.size e2, e3, e4⟩) hb5'
        rw [hXn, hxs.out] at h
        exact h
      have hlen2 : (xs ++ [(⟨X.single.pl, so', n, c'⟩ : Spv)]).length = k + 1 := by rw [List.length_append, hxs.out]; rfl
      clear y12
      replace hnc := Lib.hid hnc; replace hi5 := Lib.hid hi5; replace hfr5 := Lib.hid hfr5; replace hb5 := Lib.hid hb5; replace h5 := Lib.hid h5; replace hnx := Lib.hid hnx; replace hlen2 := Lib.hid hlen2
      go_wp2
      go_roundw
      case rel => exact ⟨k + 1, xs ++ [(⟨X.single.pl, so', n, c'⟩ : Spv)], by go_num, by omega, hlen2.out, hnx.out⟩
      case measure => simp [intOf]; omega
    · have hc1 : ¬ (k : Int) < N := by omega
      have hkN : k = N := by omega
      subst hkN
      go_wp2
      go_ret
      have h := hE.out.toExpG
      rw [hX.out] at h
      refine .inr ⟨hs.out, g, xs, ?_, ?_, ?_⟩
      · rw [hn.out]; rfl
      · rw [hxs.out, hn.out]
      · rw [hn.out]; exact h
end Go.Proofs.YteoihdkaoipocaaDoor

/- corveeref08.Rows: are two rows of specs the same? -/
namespace Go.Proofs.YteoihdkaoipocaaDoor
open Go.RowKit Go.Maps Go.Shelf Go.Sort

/-- a row of specs in memory -/
structure SpsAt (w : World) (so : Option Addr) (n : Nat) (xs : List Spv) : Prop where
  len : xs.length = n
  max : n ≤ 9223372036854775807
  cell : ∀ (i : Nat) (x : Spv), xs[i]? = some x → ∃ b off, so = some ⟨b, off, none⟩ ∧ b < w.heap.size ∧ (∀ j, j < 13 → w.cell? ⟨b, off + i * 13 + j, none⟩ = x.cells[j]?) ∧ x.ok w
theorem SpsAt.low {w w' : World} {so : Option Addr} {n : Nat} {xs : List Spv} (h : SpsAt w so n xs) (hb : Below w.heap.size w w') : SpsAt w' so n xs :=
  ⟨h.len, h.max, fun i x hx => by
    obtain ⟨b, off, e, hlt, hc, ho⟩ := h.cell i x hx
    exact ⟨b, off, e, Nat.lt_of_lt_of_le hlt hb.size, fun j hj => (below_cell hb hlt).trans (hc j hj), ho.low hb⟩⟩
def RowsPost (xs ys : List Spv) (w : World) (e : Ending) (w' : World) : Prop := e = .returned (.bool (decide (xs.map Spv.pl = ys.map Spv.pl))) ∧ Below w.heap.size w w'
structure RwC (w : World) (q : Bool) (bv : Value) (wx : World) : Prop where
  b : bv = .bool q
  low : Below w.heap.size w wx
set_option maxRecDepth 100000 in
set_option maxHeartbeats 3200000 in
theorem rows_any (ao bo : Option Addr) (n m c c' : Nat) (xs ys : List Spv) (w : World) (hx : SpsAt w ao n xs) (hy : SpsAt w bo m ys) : Calls Tryd.prog 40 #[.slice ao n c, .slice bo m c'] w (RowsPost xs ys w) := by
  have hlx := hx.len
  have hly := hy.len
  have hmx := hx.max
  by_cases q : n = m
  rotate_left
  · have d : ((n : Int) != (m : Int)) = true := by rw [bne_iff_ne]; omega
    have hne : decide (xs.map Spv.pl = ys.map Spv.pl) = false := decide_eq_false fun h => q (by have := congrArg List.length h; simp at this; omega)
    replace hx := Lib.hid hx; replace hy := Lib.hid hy; replace hlx := Lib.hid hlx; replace hly := Lib.hid hly; replace q := Lib.hid q; replace hne := Lib.hid hne
    go_enter Tryd.func40, Tryd.ntmps40
    go_wp2
    go_ret
    exact ⟨by rw [hne.out]; rfl, Below.refl _ _⟩
  subst q
  have d : ((n : Int) != (n : Int)) = false := by simp
  replace hx := Lib.hid hx; replace hy := Lib.hid hy; replace hlx := Lib.hid hlx; replace hly := Lib.hid hly
  go_enter Tryd.func40, Tryd.ntmps40
  go_wp2
  go_loopw [5, 6] (fun i _ wr => ∃ k : Nat, i = .int .i64 k ∧ k ≤ n ∧ Hid (∀ j, j < k → (xs.map Spv.pl)[j]? = (ys.map Spv.pl)[j]?) ∧ Hid (Below w.heap.size w wr)) (fun i _ _ => n - (intOf i).toNat)
  case atStart => exact ⟨0, rfl, Nat.zero_le _, (fun j h => by omega), Below.refl _ _⟩
  case round =>
    obtain ⟨k, rfl, hk, hall, hB⟩ := hrel
    by_cases hc : k < n
    · have hc1 : (k : Int) < n := by omega
      have hk0 : (0 : Int) ≤ (k : Int) := by omega
      obtain ⟨x, hx1⟩ : ∃ x, xs[k]? = some x := ⟨_, List.getElem?_eq_getElem (by have := hlx.out; omega)⟩
      obtain ⟨y, hy1⟩ : ∃ y, ys[k]? = some y := ⟨_, List.getElem?_eq_getElem (by have := hly.out; omega)⟩
      obtain ⟨b, off, rfl, hb, hcx, hox⟩ := (hx.out.low hB.out).cell k x hx1
      obtain ⟨b', off', rfl, hb', hcy, hoy⟩ := (hy.out.low hB.out).cell k y hy1
      have hsm := fun W (h : Below wr.heap.size wr W) => same_any8 x y W (hox.low h) (hoy.low h)
      unfold SamePost at hsm
      obtain ⟨q, hq⟩ : ∃ q, q = decide (x.pl = y.pl) := ⟨_, rfl⟩
      simp only [← hq] at hsm
      have hstep : q = true → ∀ j, j < k + 1 → (xs.map Spv.pl)[j]? = (ys.map Spv.pl)[j]? := fun hqt j hj => by
        by_cases e : j = k
        · subst e
          rw [List.getElem?_map, List.getElem?_map, hx1, hy1]
          rw [hqt] at hq
          exact congrArg some (of_decide_eq_true hq.symm)
        · exact hall.out j (by omega)
      have hbad : q = false → decide (xs.map Spv.pl = ys.map Spv.pl) = false := fun hqf => decide_eq_false fun h => by
        have h2 := congrArg (fun l => l[k]?) h
        simp only [List.getElem?_map, hx1, hy1, Option.map_some] at h2
        rw [hqf] at hq
        exact of_decide_eq_false hq.symm (Option.some.inj h2)
      obtain ⟨⟨user, part, nodes, ⟨da, db, dc, dd⟩, wall, prio, array, retries, held, after⟩, so, n1, cp⟩ := x
      obtain ⟨⟨user', part', nodes', ⟨da', db', dc', dd'⟩, wall', prio', array', retries', held', after'⟩, so', n1', cp'⟩ := y
      replace hcx := Lib.hid hcx; replace hcy := Lib.hid hcy
      have hS : ∀ W' : World, Below wr.heap.size wr W' → W'.cell? ⟨b, off + k * 13, none⟩ = some (.string user) ∧ W'.cell? ⟨b, off + k * 13 + 1, none⟩ = some (.string part) ∧ W'.cell? ⟨b, off + k * 13 + 2, none⟩ = some (.int .i64 nodes) ∧ W'.cell? ⟨b, off + k * 13 + 3, none⟩ = some (.int .i64 da) ∧ W'.cell? ⟨b, off + k * 13 + 4, none⟩ = some (.int .i64 db) ∧ W'.cell? ⟨b, off + k * 13 + 5, none⟩ = some (.int .i64 dc) ∧ W'.cell? ⟨b, off + k * 13 + 6, none⟩ = some (.int .i64 dd) ∧ W'.cell? ⟨b, off + k * 13 + 7, none⟩ = some (.int .i64 wall) ∧ W'.cell? ⟨b, off + k * 13 + 8, none⟩ = some (.int .i64 prio) ∧ W'.cell? ⟨b, off + k * 13 + 9, none⟩ = some (.int .i64 array) ∧ W'.cell? ⟨b, off + k * 13 + 10, none⟩ = some (.int .i64 retries) ∧ W'.cell? ⟨b, off + k * 13 + 11, none⟩ = some (.bool held) ∧ W'.cell? ⟨b, off + k * 13 + 12, none⟩ = some (.slice so n1 cp) ∧ W'.cell? ⟨b', off' + k * 13, none⟩ = some (.string user') ∧ W'.cell? ⟨b', off' + k * 13 + 1, none⟩ = some (.string part') ∧ W'.cell? ⟨b', off' + k * 13 + 2, none⟩ = some (.int .i64 nodes') ∧ W'.cell? ⟨b', off' + k * 13 + 3, none⟩ = some (.int .i64 da') ∧ W'.cell? ⟨b', off' + k * 13 + 4, none⟩ = some (.int .i64 db') ∧ W'.cell? ⟨b', off' + k * 13 + 5, none⟩ = some (.int .i64 dc') ∧ W'.cell? ⟨b', off' + k * 13 + 6, none⟩ = some (.int .i64 dd') ∧ W'.cell? ⟨b', off' + k * 13 + 7, none⟩ = some (.int .i64 wall') ∧ W'.cell? ⟨b', off' + k * 13 + 8, none⟩ = some (.int .i64 prio') ∧ W'.cell? ⟨b', off' + k * 13 + 9, none⟩ = some (.int .i64 array') ∧ W'.cell? ⟨b', off' + k * 13 + 10, none⟩ = some (.int .i64 retries') ∧ W'.cell? ⟨b', off' + k * 13 + 11, none⟩ = some (.bool held') ∧ W'.cell? ⟨b', off' + k * 13 + 12, none⟩ = some (.slice so' n1' cp') := fun W' h =>
        ⟨(below_cell h hb).trans (hcx.out 0 (by omega)), (below_cell h hb).trans (hcx.out 1 (by omega)), (below_cell h hb).trans (hcx.out 2 (by omega)), (below_cell h hb).trans (hcx.out 3 (by omega)), (below_cell h hb).trans (hcx.out 4 (by omega)), (below_cell h hb).trans (hcx.out 5 (by omega)), (below_cell h hb).trans (hcx.out 6 (by omega)), (below_cell h hb).trans (hcx.out 7 (by omega)), (below_cell h hb).trans (hcx.out 8 (by omega)), (below_cell h hb).trans (hcx.out 9 (by omega)), (below_cell h hb).trans (hcx.out 10 (by omega)), (below_cell h hb).trans (hcx.out 11 (by omega)), (below_cell h hb).trans (hcx.out 12 (by omega)), (below_cell h hb').trans (hcy.out 0 (by omega)), (below_cell h hb').trans (hcy.out 1 (by omega)), (below_cell h hb').trans (hcy.out 2 (by omega)), (below_cell h hb').trans (hcy.out 3 (by omega)), (below_cell h hb').trans (hcy.out 4 (by omega)), (below_cell h hb').trans (hcy.out 5 (by omega)), (below_cell h hb').trans (hcy.out 6 (by omega)), (below_cell h hb').trans (hcy.out 7 (by omega)), (below_cell h hb').trans (hcy.out 8 (by omega)), (below_cell h hb').trans (hcy.out 9 (by omega)), (below_cell h hb').trans (hcy.out 10 (by omega)), (below_cell h hb').trans (hcy.out 11 (by omega)), (below_cell h hb').trans (hcy.out 12 (by omega))⟩
      have hcur : Below wr.heap.size wr wr.drew := (Below.refl _ _).drew
      replace hx1 := Lib.hid hx1; replace hy1 := Lib.hid hy1; replace hox := Lib.hid hox; replace hoy := Lib.hid hoy; replace hsm := Lib.hid hsm; replace hq := Lib.hid hq; replace hstep := Lib.hid hstep; replace hbad := Lib.hid hbad; replace hS := Lib.hid hS; replace hcur := Lib.hid hcur
      go_upto_region 6 with fail
      go_cut [6] (fun bv wx => RwC wr q bv wx)
      case first =>
        go_region_held3 (fun W' => W'.cell? ⟨b, off + k * 13, none⟩ = some (.string user) ∧ W'.cell? ⟨b, off + k * 13 + 1, none⟩ = some (.string part) ∧ W'.cell? ⟨b, off + k * 13 + 2, none⟩ = some (.int .i64 nodes) ∧ W'.cell? ⟨b, off + k * 13 + 3, none⟩ = some (.int .i64 da) ∧ W'.cell? ⟨b, off + k * 13 + 4, none⟩ = some (.int .i64 db) ∧ W'.cell? ⟨b, off + k * 13 + 5, none⟩ = some (.int .i64 dc) ∧ W'.cell? ⟨b, off + k * 13 + 6, none⟩ = some (.int .i64 dd) ∧ W'.cell? ⟨b, off + k * 13 + 7, none⟩ = some (.int .i64 wall) ∧ W'.cell? ⟨b, off + k * 13 + 8, none⟩ = some (.int .i64 prio) ∧ W'.cell? ⟨b, off + k * 13 + 9, none⟩ = some (.int .i64 array) ∧ W'.cell? ⟨b, off + k * 13 + 10, none⟩ = some (.int .i64 retries) ∧ W'.cell? ⟨b, off + k * 13 + 11, none⟩ = some (.bool held) ∧ W'.cell? ⟨b, off + k * 13 + 12, none⟩ = some (.slice so n1 cp) ∧ W'.cell? ⟨b', off' + k * 13, none⟩ = some (.string user') ∧ W'.cell? ⟨b', off' + k * 13 + 1, none⟩ = some (.string part') ∧ W'.cell? ⟨b', off' + k * 13 + 2, none⟩ = some (.int .i64 nodes') ∧ W'.cell? ⟨b', off' + k * 13 + 3, none⟩ = some (.int .i64 da') ∧ W'.cell? ⟨b', off' + k * 13 + 4, none⟩ = some (.int .i64 db') ∧ W'.cell? ⟨b', off' + k * 13 + 5, none⟩ = some (.int .i64 dc') ∧ W'.cell? ⟨b', off' + k * 13 + 6, none⟩ = some (.int .i64 dd') ∧ W'.cell? ⟨b', off' + k * 13 + 7, none⟩ = some (.int .i64 wall') ∧ W'.cell? ⟨b', off' + k * 13 + 8, none⟩ = some (.int .i64 prio') ∧ W'.cell? ⟨b', off' + k * 13 + 9, none⟩ = some (.int .i64 array') ∧ W'.cell? ⟨b', off' + k * 13 + 10, none⟩ = some (.int .i64 retries') ∧ W'.cell? ⟨b', off' + k * 13 + 11, none⟩ = some (.bool held') ∧ W'.cell? ⟨b', off' + k * 13 + 12, none⟩ = some (.slice so' n1' cp'))
          (first
            | with_reducible exact hS.out _ hcur.out)
          (first
            | (go_at_call 24
               (with_reducible refine (hsm.out _ hcur.out).mono ?_)
               rintro e wz ⟨rfl, hbz⟩
               replace hcur := Lib.hid (hcur.out.trans (hbz.mono hcur.out.size))
               clear hbz))
        all_goals
          go_wp2_with fail
          go_meet
          case rel => exact ⟨rfl, hcur.out⟩
      case rest =>
      obtain ⟨rfl, hl9⟩ := hcut
      have hlow9 := hB.out.trans (hl9.mono hB.out.size)
      replace hl9 := Lib.hid hl9; replace hlow9 := Lib.hid hlow9
      cases q with
      | true =>
        have hall2 := hstep.out rfl
        replace hall2 := Lib.hid hall2
        go_wp2
        go_roundw
        case rel => exact ⟨k + 1, by go_num, by omega, hall2.out, hlow9.out⟩
        case measure => simp [intOf]; omega
      | false =>
        have hz := hbad.out rfl
        replace hz := Lib.hid hz
        go_wp2
        go_ret
        exact ⟨by rw [hz.out]; rfl, hlow9.out⟩
    · have hc1 : ¬ (k : Int) < n := by omega
      have hkn : k = n := by omega
      have hz : decide (xs.map Spv.pl = ys.map Spv.pl) = true := decide_eq_true (List.ext_getElem? fun j => by
        by_cases e : j < n
        · exact hall.out j (by omega)
        · rw [List.getElem?_eq_none (by rw [List.length_map]; have := hlx.out; omega), List.getElem?_eq_none (by rw [List.length_map]; have := hly.out; omega)])
      replace hz := Lib.hid hz
      go_wp2
      go_ret
      exact ⟨by rw [hz.out]; rfl, hB.out⟩
end Go.Proofs.YteoihdkaoipocaaDoor

/- corveelaw08.SpecExpands, its states. Plain theorems: no condition. -/
namespace Go.Proofs.YteoihdkaoipocaaDoor
open Go.RowKit Go.Maps Go.Shelf Go.Sort

theorem sps_of_own {w : World} {B : Nat} {v : Value} {xs : List Spv} (h : OwnS w B v xs) (hok : ∀ x, x ∈ xs → x.ok w) (hm : xs.length ≤ 4096) : ∃ so n c, v = .slice so n c ∧ SpsAt w so n xs := by
  rcases h.row.2 with ⟨hv, h0⟩ | ⟨g, cap, cur, hv, hg, hh, hn, hm2, hr⟩
  · have : xs = [] := List.length_eq_zero_iff.1 h0
    subst this
    exact ⟨none, 0, 0, hv, rfl, by omega, fun i x hx => by simp at hx⟩
  · refine ⟨some ⟨g, 0, none⟩, xs.length, cap, hv, rfl, by omega, fun i x hx => ⟨g, 0, rfl, blk_lt hh, fun j hj => ?_, hok x (List.mem_of_getElem? hx)⟩⟩
    have hi := (List.getElem?_eq_some_iff.1 hx).1
    have h2 := flatv_get (cells := Spv.cells) (sz := 13) (fun _ => rfl) xs hx hj
    rw [← hr.2, List.getElem?_take_of_lt (by omega)] at h2
    rw [Nat.zero_add, blk_cell hh, ← h2]
    simp
theorem ExpG.sps {w : World} {x : Spv} {g N : Nat} {xs : List Spv} {W : World} (h : ExpG w x g N xs W) (hx : x.ok w) (hl : xs.length = N) (hm : N ≤ 4096) : SpsAt W (some ⟨g, 0, none⟩) N xs := by
  obtain ⟨c, hrow, hsp⟩ := h.row
  refine ⟨hl, by omega, fun i y hy => ⟨g, 0, rfl, blk_lt hrow, fun j hj => ?_, ?_⟩⟩
  · rw [Nat.zero_add, blk_cell hrow, hsp.done i y hy j hj]
  · obtain ⟨a1, a2, a3, a4, _⟩ := h.one i y hy
    have e1 : y.pl.after = x.pl.after := by rw [a1]; rfl
    have e2 : y.pl.user = x.pl.user := by rw [a1]; rfl
    have e3 : y.pl.part = x.pl.part := by rw [a1]; rfl
    exact ⟨by rw [e1]; exact a4, a3, by rw [e2]; exact hx.user, by rw [e3]; exact hx.part⟩
theorem ExpG.pls {w : World} {x : Spv} {g N : Nat} {xs : List Spv} {W : World} (h : ExpG w x g N xs W) (hl : xs.length = N) : xs.map Spv.pl = List.replicate N x.single.pl := by
  refine List.eq_replicate_iff.2 ⟨by rw [List.length_map, hl], fun p hp => ?_⟩
  obtain ⟨y, hy, rfl⟩ := List.mem_map.1 hp
  obtain ⟨i, hi⟩ := List.mem_iff_getElem?.1 hy
  exact (h.one i y hi).1
/-- the jobs' rows while they are written over -/
structure LpW (w : World) (x ow : Spv) (ob g N : Nat) (xs : List Spv) (i k : Nat) (W : World) : Prop where
  low : Below w.heap.size w W
  box : W.heap[w.heap.size]? = some (.cells x.cells 28 (0, 0))
  own : W.heap[ob]? = some (.cells ow.cells 28 (0, 0))
  ook : ow.ok W
  row : ∃ c, W.heap[g]? = some (.cells c 28 (0, 0)) ∧ SpRow c N xs
  one : ∀ (j : Nat) (y : Spv), xs[j]? = some y → y.n = x.n ∧ (∀ b o, y.so = some ⟨b, o, none⟩ → o = 0 ∧ g < b ∧ ∃ cc, W.heap[b]? = some (.cells cc 3 (0, 0))) ∧
    ∃ zs, IntsAt W y.so y.n zs ∧ ∀ m, m < x.n → (j < i ∨ (j = i ∧ m < k)) → zs[m]? = some (1000 + (j : Int))
  apart : ∀ (i j : Nat) (y z : Spv) (b o o' : Nat), xs[i]? = some y → xs[j]? = some z → i < j → y.so = some ⟨b, o, none⟩ → z.so ≠ some ⟨b, o', none⟩
  glt : w.heap.size < g
  olt : ob < g
  oof : ∀ b o, ow.so = some ⟨b, o, none⟩ → b < g
theorem LpW.at {w : World} {x ow : Spv} {ob g N : Nat} {xs : List Spv} {i k : Nat} {W : World} (h : LpW w x ow ob g N xs i k W) {j : Nat} {y : Spv} (hy : xs[j]? = some y) : W.cell? ⟨g, j * 13 + 12, none⟩ = some (.slice y.so y.n y.c) := by
  obtain ⟨c, hrow, hsp⟩ := h.row
  rw [blk_cell hrow, hsp.done j y hy 12 (by omega)]
  rfl
/-- one number written -/
theorem LpW.set {w : World} {x ow : Spv} {ob g N : Nat} {xs : List Spv} {i k : Nat} {W : World} (h : LpW w x ow ob g N xs i k W) {y : Spv} (hy : xs[i]? = some y) {b : Nat} (hb : y.so = some ⟨b, 0, none⟩) (hk : k < x.n) : LpW w x ow ob g N xs i (k + 1) (W.setCell ⟨b, k, none⟩ (.int .i64 (1000 + (i : Int)))) := by
  have hg := gb_set (o := k) (gb_refl W (some b)) (.int .i64 (1000 + (i : Int)))
  obtain ⟨hn, hf, zs, hz, hzs⟩ := h.one i y hy
  obtain ⟨_, hgb, cc, hcc⟩ := hf b 0 hb
  obtain ⟨c, hrow, hsp⟩ := h.row
  have hne : ∀ r, r ≠ b → (W.setCell ⟨b, k, none⟩ (.int .i64 (1000 + (i : Int)))).heap[r]? = W.heap[r]? := fun r hr => Below.heap_setCell _ _ _ _ hr
  have hglt := h.glt
  have holt := h.olt
  refine ⟨h.low.setCell (show w.heap.size ≤ b by omega) _, (hne _ (by omega)).trans h.box, (hne _ (by omega)).trans h.own, ⟨ints_gb h.ook.after hg (fun b' o e => by have := h.oof b' o e; omega), h.ook.ple, h.ook.user, h.ook.part⟩, ⟨c, (hne _ (by omega)).trans hrow, hsp⟩, fun j z hj => ?_, h.apart, hglt, holt, h.oof⟩
  obtain ⟨hn', hf', zs', hz', hzs'⟩ := h.one j z hj
  by_cases e : j = i
  · subst e
    have hzy : z = y := by rw [hy] at hj; exact (Option.some.inj hj).symm
    subst hzy
    refine ⟨hn', fun b' o e' => ?_, zs.set k (1000 + (j : Int)), ⟨by rw [List.length_set]; exact hz.len, hz.max, fun m v hm => ?_⟩, fun m hm hc => ?_⟩
    · rw [hb] at e'
      cases e'
      exact ⟨rfl, hgb, _, blk_set hcc _ _⟩
    · refine ⟨b, 0, hb, by rw [show (W.setCell ⟨b, k, none⟩ (.int .i64 (1000 + (j : Int)))).heap.size = W.heap.size by simp [World.setCell]]; exact blk_lt hcc, ?_⟩
      rw [blk_cell (blk_set hcc _ _), Nat.zero_add, Array.getElem?_setIfInBounds]
      by_cases em : k = m
      · subst em
        have hkl : k < zs.length := by rw [hz.len, hn]; exact hk
        rw [List.getElem?_set_self hkl] at hm
        have hv := Option.some.inj hm
        obtain ⟨u, hu⟩ : ∃ u, zs[k]? = some u := ⟨_, List.getElem?_eq_getElem hkl⟩
        obtain ⟨b2, o2, e2, _, hc2⟩ := hz.cell k u hu
        rw [hb] at e2
        cases e2
        rw [blk_cell hcc, Nat.zero_add] at hc2
        have hlt := (Array.getElem?_eq_some_iff.1 hc2).1
        rw [if_pos rfl, if_pos hlt, hv]
      · rw [if_neg em]
        rw [List.getElem?_set_ne em] at hm
        obtain ⟨b2, o2, e2, _, hc2⟩ := hz.cell m v hm
        rw [hb] at e2
        cases e2
        rw [blk_cell hcc, Nat.zero_add] at hc2
        exact hc2
    · by_cases em : k = m
      · subst em
        rw [List.getElem?_set_self (by rw [hz.len, hn]; exact hk)]
      · rw [List.getElem?_set_ne em]
        exact hzs m hm (by omega)
  · have hbn : ∀ b' o, z.so = some ⟨b', o, none⟩ → b' ≠ b := fun b' o e' c => by
      subst c
      rcases Nat.lt_or_gt_of_ne e with hlt | hgt
      · exact h.apart j i z y b' o 0 hj hy hlt e' hb
      · exact h.apart i j y z b' 0 o hy hj hgt hb e'
    refine ⟨hn', fun b' o e' => ?_, zs', ints_gb hz' hg hbn, fun m hm hc => hzs' m hm (by omega)⟩
    obtain ⟨h1, h2, cc', h3⟩ := hf' b' o e'
    exact ⟨h1, h2, cc', (hne _ (hbn b' o e')).trans h3⟩
theorem LpW.up {w : World} {x ow : Spv} {ob g N : Nat} {xs : List Spv} {i : Nat} {W : World} (h : LpW w x ow ob g N xs i x.n W) : LpW w x ow ob g N xs (i + 1) 0 W :=
  ⟨h.low, h.box, h.own, h.ook, h.row, fun j y hy => by
    obtain ⟨a, b, zs, hz, hzs⟩ := h.one j y hy
    exact ⟨a, b, zs, hz, fun m hm hc => hzs m hm (by omega)⟩, h.apart, h.glt, h.olt, h.oof⟩
end Go.Proofs.YteoihdkaoipocaaDoor

/- corveelaw08.SpecExpands, up to its loops. -/
namespace Go.Proofs.YteoihdkaoipocaaDoor
open Go.RowKit Go.Maps Go.Shelf Go.Sort

/-- both specs' variables -/
structure TwoW (w : World) (x ow : Spv) (ob : Nat) (W : World) : Prop where
  low : Below w.heap.size w W
  box : W.heap[w.heap.size]? = some (.cells x.cells 28 (0, 0))
  own : W.heap[ob]? = some (.cells ow.cells 28 (0, 0))
  ook : ow.ok W
theorem TwoW.on {w W W' : World} {x ow : Spv} {ob : Nat} (h : TwoW w x ow ob W) (hb : Below W.heap.size W W') : TwoW w x ow ob W' :=
  ⟨h.low.trans (hb.mono h.low.size), blk_below hb h.box (blk_lt h.box), blk_below hb h.own (blk_lt h.own), h.ook.low hb⟩
/-- the copy of a spec's numbers -/
structure CpyW (w : World) (x : Spv) (ob : Nat) (W0 : World) (wx : World) : Prop where
  ex : ∃ so2 c2, TwoW w x ⟨x.pl, so2, x.n, c2⟩ ob wx ∧ (∀ b o, so2 = some ⟨b, o, none⟩ → b < wx.heap.size ∧ ob < b)
theorem app_form {w9 : World} {B n : Nat} {v1 : Value} {l : List Int} (hl : l.length = n) (hown : w9.ownsRow B 3 1 v1 (0 + n) ([] ++ intsV l)) (hne : v1 ≠ .slice none 0 0) : ∃ g cap, v1 = .slice (some ⟨g, 0, none⟩) n cap ∧ B ≤ g ∧ g < w9.heap.size ∧ n ≤ cap ∧ IntsAt w9 (some ⟨g, 0, none⟩) n l := by
  rw [Nat.zero_add, List.nil_append] at hown
  rcases hown.2 with ⟨hv, _⟩ | ⟨g, cap, cur, hv, hg, hh, hcap, hm, hr⟩
  · exact absurd hv hne
  · refine ⟨g, cap, hv, hg, blk_lt hh, hcap, hl, by have : maxLen = 9223372036854775807 := rfl; omega, fun i x hx => ⟨g, 0, rfl, blk_lt hh, ?_⟩⟩
    have hi := (List.getElem?_eq_some_iff.1 hx).1
    rw [hv] at hown
    rw [Nat.zero_add, World.ownsRow.cellAt hown i (by omega), intsV, List.getElem?_map, hx]; rfl
theorem CpyW.mk1 {w W0 W5 : World} {x : Spv} {ob c2 : Nat} {so2 : Option Addr} (hlow : Below w.heap.size w W5) (hbox : W5.heap[w.heap.size]? = some (.cells x.cells 28 (0, 0))) (hown : W5.heap[ob]? = some (.cells x.cells 28 (0, 0))) (hi : IntsAt W5 so2 x.n x.pl.after) (hx : x.ok w) (hnc : x.n ≤ c2) (hob : w.heap.size < ob)
    (hfr : ∀ b o, so2 = some ⟨b, o, none⟩ → b < W5.heap.size ∧ ob < b) : CpyW w x ob W0 (W5.setCell ⟨ob, 12, none⟩ (.slice so2 x.n c2)) := by
  refine ⟨so2, c2, ⟨hlow.setCell (Nat.le_of_lt hob) _, blk_set_other (by omega) _ hbox, blk_set hown 12 _, ⟨ints_gb hi (gb_set (gb_refl W5 (some ob)) _) (fun b o e => by have := (hfr b o e).2; omega), hnc, hx.user, hx.part⟩⟩, fun b o e => ⟨?_, (hfr b o e).2⟩⟩
  have := (hfr b o e).1
  simpa [World.setCell] using this
theorem LpW.two {w : World} {x ow : Spv} {ob g N : Nat} {xs : List Spv} {i k : Nat} {W : World} (h : LpW w x ow ob g N xs i k W) : TwoW w x ow ob W := ⟨h.low, h.box, h.own, h.ook⟩
theorem LpW.mk0 {w wc : World} {x ow : Spv} {ob g N : Nat} {xs : List Spv} {W : World} (hT : TwoW w x ow ob W) (ho : wc.heap[ob]? = some (.cells ow.cells 28 (0, 0))) (hfr : ∀ b o, ow.so = some ⟨b, o, none⟩ → b < wc.heap.size ∧ ob < b) (hwc : Below w.heap.size w wc) (hn : ow.n = x.n) (h : ExpG wc ow g N xs W) : LpW w x ow ob g N xs 0 0 W :=
  ⟨hT.low, hT.box, hT.own, hT.ook, h.row, fun j y hy => by
    obtain ⟨a1, a2, a3, a4, a5⟩ := h.one j y hy
    refine ⟨a2.trans hn, fun b o e => ?_, ow.pl.after, a4, fun m hm hc => by omega⟩
    obtain ⟨b1, b2, b3, b4⟩ := a5 b o e
    exact ⟨b1, b2, b4⟩, h.apart, Nat.lt_of_le_of_lt hwc.size h.glt, Nat.lt_trans (blk_lt ho) h.glt, fun b o e => Nat.lt_trans (hfr b o e).1 h.glt⟩
theorem LpW.on {w W W' : World} {x ow : Spv} {ob g N : Nat} {xs : List Spv} {i k : Nat} (h : LpW w x ow ob g N xs i k W) (hb : Below W.heap.size W W') : LpW w x ow ob g N xs i k W' := by
  have hT := h.two.on hb
  obtain ⟨c, hr, hs⟩ := h.row
  exact ⟨hT.low, hT.box, hT.own, hT.ook, ⟨c, blk_below hb hr (blk_lt hr), hs⟩, fun j y hy => by
    obtain ⟨a1, a2, zs, hz, hzs⟩ := h.one j y hy
    refine ⟨a1, fun b o e => ?_, zs, hz.low hb, hzs⟩
    obtain ⟨b1, b2, cc, b4⟩ := a2 b o e
    exact ⟨b1, b2, cc, blk_below hb b4 (blk_lt b4)⟩, h.apart, h.glt, h.olt, h.oof⟩
/-- the jobs' rows, or none -/
structure LpV (w : World) (x ow : Spv) (ob : Nat) (ls : Option Addr) (N : Nat) (xs : List Spv) (i k : Nat) (W : World) : Prop where
  two : TwoW w x ow ob W
  lp : N = 0 ∨ ∃ g, ls = some ⟨g, 0, none⟩ ∧ LpW w x ow ob g N xs i k W
theorem LpV.on {w W W' : World} {x ow : Spv} {ob : Nat} {ls : Option Addr} {N : Nat} {xs : List Spv} {i k : Nat} (h : LpV w x ow ob ls N xs i k W) (hb : Below W.heap.size W W') : LpV w x ow ob ls N xs i k W' :=
  ⟨h.two.on hb, h.lp.imp id (fun ⟨g, e, l⟩ => ⟨g, e, l.on hb⟩)⟩
theorem LpV.get {w W : World} {x ow : Spv} {ob : Nat} {ls : Option Addr} {N : Nat} {xs : List Spv} {i k j : Nat} (h : LpV w x ow ob ls N xs i k W) (hj : j < N) : ∃ g, ls = some ⟨g, 0, none⟩ ∧ LpW w x ow ob g N xs i k W := by
  rcases h.lp with h | h
  · omega
  · exact h
theorem expN_le (s : Spp) : expN s ≤ 4096 := by
  unfold expN
  split
  · rename_i h
    obtain ⟨_, _, _, _, _, _, _, q8, _⟩ := mayS_parts h
    have := betw_iff.1 q8
    omega
  · omega
set_option maxRecDepth 100000 in
set_option maxHeartbeats 3200000 in
theorem sexp_any (x : Spv) (w : World) (hx : x.ok w) (hcz : x.so = none → x.c = 0) (hm : Mx w) (ht : Tb w) : Calls Tryd.prog 10 #[x.val] w fun e w' => e = .returned (.bool true) ∧ Below w.heap.size w w' := by
  obtain ⟨i3, hi3, hz3, hz31, hz32⟩ := info_parts info3
  have hB0 := BoxC.new w x
  have hc1 := awake8 (w.alloc (.cells x.cells 28 (0, 0))) (hm.low hB0.low) (ht.low hB0.low)
  obtain ⟨⟨user, part, nodes, ⟨da, db, dc, dd⟩, wall, prio, array, retries, held, after⟩, so, n, cp⟩ := x
  by_cases q1 : 1000 < n
  · have d1 : decide ((1000 : Int) < n) = true := decide_eq_true (by omega)
    have d1' : decide (1000 < n) = true := decide_eq_true q1
    replace hc1 := Lib.hid hc1; replace hB0 := Lib.hid hB0; replace hx := Lib.hid hx; replace hm := Lib.hid hm; replace ht := Lib.hid ht; replace q1 := Lib.hid q1; replace hi3 := Lib.hid hi3; replace hz3 := Lib.hid hz3; replace hz31 := Lib.hid hz31; replace hz32 := Lib.hid hz32; replace hcz := Lib.hid hcz
    go_enter Tryd.func10, Tryd.ntmps10
    go_wp2_with fail
    refine hc1.out.mono ?_
    rintro e w1 ⟨rfl, hb1⟩
    have hB1 := hB0.out.below hb1
    have y12 : w1.cell? ⟨w.heap.size, 12, none⟩ = some (.slice so n cp) := blk_cell hB1.box 12
    replace hb1 := Lib.hid hb1; replace hB1 := Lib.hid hB1
    go_wp2
    go_ret
    exact ⟨rfl, hB1.out.low⟩
  have d1 : decide ((1000 : Int) < n) = false := decide_eq_false (by omega)
  have d1' : decide (1000 < n) = false := decide_eq_false q1
  replace hc1 := Lib.hid hc1; replace hB0 := Lib.hid hB0; replace hx := Lib.hid hx; replace hm := Lib.hid hm; replace ht := Lib.hid ht; replace hi3 := Lib.hid hi3; replace hz3 := Lib.hid hz3; replace hz31 := Lib.hid hz31; replace hz32 := Lib.hid hz32; replace hcz := Lib.hid hcz
  go_enter Tryd.func10, Tryd.ntmps10
  go_wp2_with fail
  refine hc1.out.mono ?_
  rintro e w1 ⟨rfl, hb1⟩
  have hB1 := hB0.out.below hb1
  have y0 : w1.cell? ⟨w.heap.size, 0, none⟩ = some (.string user) := blk_cell (hB1.box) 0
  have y1 : w1.cell? ⟨w.heap.size, 1, none⟩ = some (.string part) := blk_cell (hB1.box) 1
  have y2 : w1.cell? ⟨w.heap.size, 2, none⟩ = some (.int .i64 nodes) := blk_cell (hB1.box) 2
  have y3 : w1.cell? ⟨w.heap.size, 3, none⟩ = some (.int .i64 da) := blk_cell (hB1.box) 3
  have y4 : w1.cell? ⟨w.heap.size, 4, none⟩ = some (.int .i64 db) := blk_cell (hB1.box) 4
  have y5 : w1.cell? ⟨w.heap.size, 5, none⟩ = some (.int .i64 dc) := blk_cell (hB1.box) 5
  have y6 : w1.cell? ⟨w.heap.size, 6, none⟩ = some (.int .i64 dd) := blk_cell (hB1.box) 6
  have y7 : w1.cell? ⟨w.heap.size, 7, none⟩ = some (.int .i64 wall) := blk_cell (hB1.box) 7
  have y8 : w1.cell? ⟨w.heap.size, 8, none⟩ = some (.int .i64 prio) := blk_cell (hB1.box) 8
  have y9 : w1.cell? ⟨w.heap.size, 9, none⟩ = some (.int .i64 array) := blk_cell (hB1.box) 9
  have y10 : w1.cell? ⟨w.heap.size, 10, none⟩ = some (.int .i64 retries) := blk_cell (hB1.box) 10
  have y11 : w1.cell? ⟨w.heap.size, 11, none⟩ = some (.bool held) := blk_cell (hB1.box) 11
  have y12 : w1.cell? ⟨w.heap.size, 12, none⟩ = some (.slice so n cp) := blk_cell (hB1.box) 12
  replace hb1 := Lib.hid hb1; replace hB1 := Lib.hid hB1
  go_upto_region 7 with fail
  obtain ⟨ob, hob⟩ : ∃ ob, ob = w1.heap.size := ⟨_, rfl⟩
  obtain ⟨W2, hW2⟩ : ∃ W2, W2 = w1.alloc (.cells (⟨⟨user, part, nodes, ⟨da, db, dc, dd⟩, wall, prio, array, retries, held, after⟩, so, n, cp⟩ : Spv).cells 28 (0, 0)) := ⟨_, rfl⟩
  have hb2 : Below w1.heap.size w1 W2 := by rw [hW2]; exact (Below.refl _ _).alloc (Nat.le_refl _) _
  have hT2 : TwoW w ⟨⟨user, part, nodes, ⟨da, db, dc, dd⟩, wall, prio, array, retries, held, after⟩, so, n, cp⟩ ⟨⟨user, part, nodes, ⟨da, db, dc, dd⟩, wall, prio, array, retries, held, after⟩, so, n, cp⟩ ob W2 := ⟨hB1.out.low.trans (hb2.mono hB1.out.low.size), blk_below hb2 hB1.out.box (blk_lt hB1.out.box), by rw [hW2, hob]; exact blk_new _ _, (hx.out.low hB1.out.low).low hb2⟩
  rw [← hW2, ← hob]
  clear y0 y1 y2 y3 y4 y5 y6 y7 y8 y9 y10 y11 y12
  have hW2' := Lib.hid hW2
  clear hW2
  have hob' := Lib.hid hob
  clear hob
  replace hb2 := Lib.hid hb2; replace hT2 := Lib.hid hT2
  have c12 : W2.cell? ⟨w.heap.size, 12, none⟩ = some (.slice so n cp) := blk_cell hT2.out.box 12
  have o12 : W2.cell? ⟨ob, 12, none⟩ = some (.slice so n cp) := blk_cell hT2.out.own 12
  have fo := blk_free hT2.out.own
  have hobl := blk_lt hT2.out.own
  have hbol := blk_lt hT2.out.box
  have hobw : w.heap.size < ob := by rw [hob'.out]; exact blk_lt hB1.out.box
  have hownE : (W2.alloc (.cells #[] 3 (0, 0))).ownsRow W2.heap.size 3 1 (.slice (some ⟨W2.heap.size, 0, none⟩) 0 0) 0 [] := ⟨rfl, .inr ⟨W2.heap.size, 0, #[], rfl, Nat.le_refl _, blk_new _ _, Nat.le_refl _, Nat.zero_le _, rfl, rfl⟩⟩
  replace hownE := Lib.hid hownE
  go_cut [] (fun wx => CpyW w ⟨⟨user, part, nodes, ⟨da, db, dc, dd⟩, wall, prio, array, retries, held, after⟩, so, n, cp⟩ ob W2 wx)
  case first =>
    cases hso : so with
    | none =>
      have hcp : cp = 0 := hcz.out hso
      have hn0 : n = 0 := by
        cases n with
        | zero => rfl
        | succ n =>
          obtain ⟨y, hy⟩ := hx.out.after.get (i := 0) (by show 0 < n + 1; omega)
          obtain ⟨b, off, e, _⟩ := hx.out.after.cell 0 y hy
          have e' : so = some ⟨b, off, none⟩ := e
          rw [hso] at e'; cases e'
      subst hcp; subst hn0; subst hso
      go_wp2_with (at_builtin; refine wpList_append_own_none rfl _ _ 26 rfl W2.heap.size 3 i3 1 Tryd.underlying26 hi3.out (.slice (some ⟨W2.heap.size, 0, none⟩) 0 0) 0 [] rfl hownE.out rfl ?_)
      go_meet
      case rel =>
        have hTs : TwoW w ⟨⟨user, part, nodes, ⟨da, db, dc, dd⟩, wall, prio, array, retries, held, after⟩, none, 0, 0⟩ ⟨⟨user, part, nodes, ⟨da, db, dc, dd⟩, wall, prio, array, retries, held, after⟩, some ⟨W2.heap.size, 0, none⟩, 0, 0⟩ ob (W2.setCell ⟨ob, 12, none⟩ (.slice (some ⟨W2.heap.size, 0, none⟩) 0 0)) :=
          ⟨hT2.out.low.setCell (Nat.le_of_lt hobw) _, blk_set_other (by omega) _ hT2.out.box, blk_set hT2.out.own 12 _, ⟨hx.out.after.len, Nat.zero_le _, fun i y hy => by
            have h2 : after.length = 0 := hx.out.after.len
            have h1 : i < after.length := (List.getElem?_eq_some_iff.1 hy).1
            omega⟩, Nat.le_refl _, hx.out.user, hx.out.part⟩
        exact ⟨some ⟨W2.heap.size, 0, none⟩, 0, hTs.on ((Below.refl _ _).alloc (Nat.le_refl _) _), fun b o e => by cases e; exact ⟨by simp [World.setCell], hobl⟩⟩
    | some ad =>
      subst hso
      have hlen : after.length = n := hx.out.after.len
      have hi2 := (hx.out.low (hT2.out.low)).after
      have hb3 : Below W2.heap.size W2 (W2.alloc (.cells #[] 3 (0, 0))) := (Below.refl _ _).alloc (Nat.le_refl _) _
      have hi3' := hi2.low hb3
      have hnews : ∀ j u, (intsV after)[j]? = some u → (W2.alloc (.cells #[] 3 (0, 0))).cell? (ad.add j) = some u := fun j u hu => by
        rw [intsV, List.getElem?_map] at hu
        obtain ⟨y, hy, rfl⟩ := Option.map_eq_some_iff.1 hu
        obtain ⟨b, off, e, _, hcl⟩ := hi3'.cell j y hy
        cases e
        rw [Addr.add_lit]; exact hcl
      have hone1 : ∀ u ∈ intsV after, u.oneCell' = true := fun u hu => by
        obtain ⟨y, _, rfl⟩ := List.mem_map.1 hu; rfl
      have hl1 : (intsV after).length = n * 1 := by rw [intsV, List.length_map, hlen, Nat.mul_one]
      have h63 : 0 + n ≤ maxLen := by have : maxLen = 9223372036854775807 := rfl; omega
      have hby : (0 + n) * 8 ≤ 140737488355328 := by omega
      have hbas : W2.heap.size ≤ (W2.alloc (.cells #[] 3 (0, 0))).heap.size := by simp
      have hkeep : ∀ w9 : World, (W2.alloc (.cells #[] 3 (0, 0))).grownBy w9 (Value.slice (some ⟨W2.heap.size, 0, none⟩) 0 0).ownBlock → w9.heap[ob]? = some (.cells (⟨⟨user, part, nodes, ⟨da, db, dc, dd⟩, wall, prio, array, retries, held, after⟩, some ad, n, cp⟩ : Spv).cells 28 (0, 0)) ∧ w9.heap[w.heap.size]? = some (.cells (⟨⟨user, part, nodes, ⟨da, db, dc, dd⟩, wall, prio, array, retries, held, after⟩, some ad, n, cp⟩ : Spv).cells 28 (0, 0)) ∧ Below w.heap.size w w9 := fun w9 hg => by
        have hne : ∀ r, r < W2.heap.size → some r ≠ (Value.slice (some ⟨W2.heap.size, 0, none⟩) 0 0).ownBlock := fun r hr e => by
          simp [Value.ownBlock] at e
          omega
        have hT3 := hT2.out.on hb3
        refine ⟨(hg.block ob (by rw [World.size_alloc]; omega) (hne _ hobl)).trans hT3.own, (hg.block _ (by rw [World.size_alloc]; omega) (hne _ hbol)).trans hT3.box, hT3.low.grown hg hT3.low.size (fun k e => ?_)⟩
        simp [Value.ownBlock] at e
        omega
      have hnn : ∀ v1 : Value, (v1 = .slice none 0 0 ↔ (Value.slice (some ⟨W2.heap.size, 0, none⟩) 0 0) = .slice none 0 0 ∧ n = 0) → v1 ≠ .slice none 0 0 := fun v1 h c => by
        have := (h.1 c).1
        cases this
      replace hkeep := Lib.hid hkeep; replace hnn := Lib.hid hnn
      replace hlen := Lib.hid hlen; replace hi2 := Lib.hid hi2; replace hb3 := Lib.hid hb3; replace hi3' := Lib.hid hi3'; replace hnews := Lib.hid hnews; replace hone1 := Lib.hid hone1; replace hl1 := Lib.hid hl1; replace h63 := Lib.hid h63; replace hby := Lib.hid hby; replace hbas := Lib.hid hbas
      go_wp2_with (at_builtin; go_must (refine wpList_append_own _ rfl _ _ 26 rfl W2.heap.size 3 i3 _ 1 8 Tryd.underlying26 hi3.out hz3.out hz31.out hz32.out rfl (by decide) (.slice (some ⟨W2.heap.size, 0, none⟩) 0 0) 0 [] rfl hownE.out ad n cp (intsV after) rfl hl1.out hnews.out hone1.out h63.out hby.out hbas.out ?_); intro v1 w9 hown9 hgrow hniff; obtain ⟨g9, cap9, rfl, hg9, hgl9, hcap9, hi9⟩ := app_form hlen.out hown9 (hnn.out _ hniff); have hk9 := hkeep.out w9 hgrow; have z12 := blk_cell hk9.1 12; have f9 := blk_free hk9.1; simp at z12; clear hown9 hniff; replace hgrow := Lib.hid hgrow; replace hk9 := Lib.hid hk9; replace hi9 := Lib.hid hi9; replace hg9 := Lib.hid hg9)
      go_meet
      case rel =>
        have hg9' := hg9.out
        exact CpyW.mk1 (x := ⟨⟨user, part, nodes, ⟨da, db, dc, dd⟩, wall, prio, array, retries, held, after⟩, some ad, n, cp⟩) hk9.out.2.2 hk9.out.2.1 hk9.out.1 hi9.out hx.out hcap9 hobw (fun b o e => by cases e; exact ⟨hgl9, by omega⟩)
  case rest =>
  obtain ⟨so2, c2, hT, hfr⟩ := hcut.ex
  clear hcut c12 o12 fo
  have hexp := exp_any ⟨⟨user, part, nodes, ⟨da, db, dc, dd⟩, wall, prio, array, retries, held, after⟩, so2, n, c2⟩ wc hT.ook
  have y0 : wc.cell? ⟨ob, 0, none⟩ = some (.string user) := blk_cell (hT.own) 0
  have y1 : wc.cell? ⟨ob, 1, none⟩ = some (.string part) := blk_cell (hT.own) 1
  have y2 : wc.cell? ⟨ob, 2, none⟩ = some (.int .i64 nodes) := blk_cell (hT.own) 2
  have y3 : wc.cell? ⟨ob, 3, none⟩ = some (.int .i64 da) := blk_cell (hT.own) 3
  have y4 : wc.cell? ⟨ob, 4, none⟩ = some (.int .i64 db) := blk_cell (hT.own) 4
  have y5 : wc.cell? ⟨ob, 5, none⟩ = some (.int .i64 dc) := blk_cell (hT.own) 5
  have y6 : wc.cell? ⟨ob, 6, none⟩ = some (.int .i64 dd) := blk_cell (hT.own) 6
  have y7 : wc.cell? ⟨ob, 7, none⟩ = some (.int .i64 wall) := blk_cell (hT.own) 7
  have y8 : wc.cell? ⟨ob, 8, none⟩ = some (.int .i64 prio) := blk_cell (hT.own) 8
  have y9 : wc.cell? ⟨ob, 9, none⟩ = some (.int .i64 array) := blk_cell (hT.own) 9
  have y10 : wc.cell? ⟨ob, 10, none⟩ = some (.int .i64 retries) := blk_cell (hT.own) 10
  have y11 : wc.cell? ⟨ob, 11, none⟩ = some (.bool held) := blk_cell (hT.own) 11
  have y12 : wc.cell? ⟨ob, 12, none⟩ = some (.slice so2 n c2) := blk_cell (hT.own) 12
  replace hT := Lib.hid hT; replace hfr := Lib.hid hfr; replace hexp := Lib.hid hexp
  go_wp2_with fail
  refine hexp.out.mono ?_
  intro e w3 hcase
  obtain ⟨ls, N, xs, hle, hN, hxl, hsps, hb3, hGo, hEx⟩ : ∃ (ls : Option Addr) (N : Nat) (xs : List Spv), e = .returned (.slice ls N N) ∧ N = expN (⟨⟨user, part, nodes, ⟨da, db, dc, dd⟩, wall, prio, array, retries, held, after⟩, so, n, cp⟩ : Spv).pl ∧ xs.length = N ∧ SpsAt w3 ls N xs ∧ Below wc.heap.size wc w3 ∧ (xs.map Spv.pl = List.replicate N (⟨⟨user, part, nodes, ⟨da, db, dc, dd⟩, wall, prio, array, retries, held, after⟩, so, n, cp⟩ : Spv).single.pl) ∧ (N = 0 ∨ ∃ g, ls = some ⟨g, 0, none⟩ ∧ ExpG wc ⟨⟨user, part, nodes, ⟨da, db, dc, dd⟩, wall, prio, array, retries, held, after⟩, so2, n, c2⟩ g N xs w3) := by
    rcases hcase with ⟨hs0, rfl, hb⟩ | ⟨hs1, g, xs, rfl, hxl, hE⟩
    · have h0 : expN (⟨⟨user, part, nodes, ⟨da, db, dc, dd⟩, wall, prio, array, retries, held, after⟩, so, n, cp⟩ : Spv).pl = 0 := if_neg (by rw [show (⟨⟨user, part, nodes, ⟨da, db, dc, dd⟩, wall, prio, array, retries, held, after⟩, so, n, cp⟩ : Spv).pl = (⟨⟨user, part, nodes, ⟨da, db, dc, dd⟩, wall, prio, array, retries, held, after⟩, so2, n, c2⟩ : Spv).pl from rfl, hs0]; decide)
      exact ⟨none, 0, [], rfl, h0.symm, rfl, ⟨rfl, by omega, fun i x hx => by simp at hx⟩, hb, rfl, .inl rfl⟩
    · have hNe : expN (⟨⟨user, part, nodes, ⟨da, db, dc, dd⟩, wall, prio, array, retries, held, after⟩, so2, n, c2⟩ : Spv).pl ≤ 4096 := by
        obtain ⟨_, _, _, _, _, _, _, q8, _⟩ := mayS_parts hs1
        have := betw_iff.1 q8
        unfold expN
        split <;> omega
      exact ⟨some ⟨g, 0, none⟩, expN (⟨⟨user, part, nodes, ⟨da, db, dc, dd⟩, wall, prio, array, retries, held, after⟩, so2, n, c2⟩ : Spv).pl, xs, rfl, rfl, hxl, hE.sps hT.out.ook hxl hNe, hE.low, hE.pls hxl, .inr ⟨g, rfl, hE⟩⟩
  subst hle
  clear y0 y1 y2 y3 y4 y5 y6 y7 y8 y9 y10 y11 y12
  have hT3 := hT.out.on hb3
  have hTT : ∀ W, Below w3.heap.size w3 W → TwoW w ⟨⟨user, part, nodes, ⟨da, db, dc, dd⟩, wall, prio, array, retries, held, after⟩, so, n, cp⟩ ⟨⟨user, part, nodes, ⟨da, db, dc, dd⟩, wall, prio, array, retries, held, after⟩, so2, n, c2⟩ ob W := fun W h => hT3.on h
  have hxo : ∀ W, Below w3.heap.size w3 W → (⟨⟨user, part, nodes, ⟨da, db, dc, dd⟩, wall, prio, array, retries, held, after⟩, so, n, cp⟩ : Spv).ok W := fun W h => hx.out.low (hTT W h).low
  have hoo : ∀ W, Below w3.heap.size w3 W → (⟨⟨user, part, nodes, ⟨da, db, dc, dd⟩, wall, prio, array, retries, held, after⟩, so2, n, c2⟩ : Spv).ok W := fun W h => (hTT W h).ook
  obtain ⟨va, vb, vc, vd, hV⟩ : ∃ va vb vc vd, needS (⟨⟨user, part, nodes, ⟨da, db, dc, dd⟩, wall, prio, array, retries, held, after⟩, so, n, cp⟩ : Spv).pl = ⟨va, vb, vc, vd⟩ := ⟨_, _, _, _, rfl⟩
  have hnd : ∀ W, Below w3.heap.size w3 W → Calls Tryd.prog 42 #[(⟨⟨user, part, nodes, ⟨da, db, dc, dd⟩, wall, prio, array, retries, held, after⟩, so2, n, c2⟩ : Spv).val] W fun e w' => e = .returned (V4.val ⟨va, vb, vc, vd⟩) ∧ Below W.heap.size W w' := fun W h => by
    rw [← hV]; exact need_any ⟨⟨user, part, nodes, ⟨da, db, dc, dd⟩, wall, prio, array, retries, held, after⟩, so2, n, c2⟩ W (hoo W h)
  have hnr : ∀ W, Below w3.heap.size w3 W → Calls Tryd.prog 43 #[(⟨⟨user, part, nodes, ⟨da, db, dc, dd⟩, wall, prio, array, retries, held, after⟩, so, n, cp⟩ : Spv).val] W fun e w' => e = .returned (V4.val ⟨va, vb, vc, vd⟩) ∧ Below W.heap.size W w' := fun W h => by
    rw [← hV]; exact rneed_any ⟨⟨user, part, nodes, ⟨da, db, dc, dd⟩, wall, prio, array, retries, held, after⟩, so, n, cp⟩ W (hxo W h)
  have hLV : LpV w ⟨⟨user, part, nodes, ⟨da, db, dc, dd⟩, wall, prio, array, retries, held, after⟩, so, n, cp⟩ ⟨⟨user, part, nodes, ⟨da, db, dc, dd⟩, wall, prio, array, retries, held, after⟩, so2, n, c2⟩ ob ls N xs 0 0 w3 := ⟨hT3, hEx.imp id (fun ⟨g, e, hE⟩ => ⟨g, e, LpW.mk0 hT3 hT.out.own hfr.out hT.out.low rfl hE⟩)⟩
  have hNle : expN (⟨⟨user, part, nodes, ⟨da, db, dc, dd⟩, wall, prio, array, retries, held, after⟩, so, n, cp⟩ : Spv).pl ≤ 4096 := expN_le _
  have hrx : ∀ W, Below w3.heap.size w3 W → Calls Tryd.prog 41 #[(⟨⟨user, part, nodes, ⟨da, db, dc, dd⟩, wall, prio, array, retries, held, after⟩, so, n, cp⟩ : Spv).val] W fun e w' => ∃ so9 n9 c9, e = .returned (.slice so9 n9 c9) ∧ SpsAt w' so9 n9 (List.replicate N (⟨⟨user, part, nodes, ⟨da, db, dc, dd⟩, wall, prio, array, retries, held, after⟩, so, n, cp⟩ : Spv).single) ∧ Below W.heap.size W w' := fun W h => by
    refine (rexp_any ⟨⟨user, part, nodes, ⟨da, db, dc, dd⟩, wall, prio, array, retries, held, after⟩, so, n, cp⟩ W (hxo W h)).mono ?_
    rintro e wz ⟨v, rfl, hO, hb⟩
    rw [← hN] at hO
    obtain ⟨so9, n9, c9, rfl, hS⟩ := sps_of_own hO (fun y hy => by
      have hy2 := List.eq_of_mem_replicate hy
      subst hy2
      have h4 := (hxo W h).low hb
      exact ⟨h4.after, h4.ple, h4.user, h4.part⟩) (by rw [List.length_replicate]; omega)
    exact ⟨so9, n9, c9, rfl, hS, hb⟩
  have hrw : ∀ W so9 n9 c9, Below w3.heap.size w3 W → SpsAt W so9 n9 (List.replicate N (⟨⟨user, part, nodes, ⟨da, db, dc, dd⟩, wall, prio, array, retries, held, after⟩, so, n, cp⟩ : Spv).single) → Calls Tryd.prog 40 #[.slice ls N N, .slice so9 n9 c9] W fun e w' => e = .returned (.bool true) ∧ Below W.heap.size W w' := fun W so9 n9 c9 h h9 => by
    refine (rows_any ls so9 N n9 N c9 xs _ W (hsps.low h) h9).mono ?_
    rintro e wz ⟨rfl, hb⟩
    refine ⟨?_, hb⟩
    rw [hGo, List.map_replicate, decide_eq_true rfl]
  have hE25 : ∀ W, (Op.equalIn 10000 25 (.agg #[.int .i64 va, .int .i64 vb, .int .i64 vc, .int .i64 vd]) (.agg #[.int .i64 va, .int .i64 vb, .int .i64 vc, .int .i64 vd])).run Tryd.prog W = .ok true W := fun W => eq25n ⟨va, vb, vc, vd⟩ ⟨va, vb, vc, vd⟩ W rfl
  have hS : ∀ W' : World, Below w3.heap.size w3 W' → W'.cell? ⟨w.heap.size, 0, none⟩ = some (.string user) ∧ W'.cell? ⟨w.heap.size, 1, none⟩ = some (.string part) ∧ W'.cell? ⟨w.heap.size, 2, none⟩ = some (.int .i64 nodes) ∧ W'.cell? ⟨w.heap.size, 3, none⟩ = some (.int .i64 da) ∧ W'.cell? ⟨w.heap.size, 4, none⟩ = some (.int .i64 db) ∧ W'.cell? ⟨w.heap.size, 5, none⟩ = some (.int .i64 dc) ∧ W'.cell? ⟨w.heap.size, 6, none⟩ = some (.int .i64 dd) ∧ W'.cell? ⟨w.heap.size, 7, none⟩ = some (.int .i64 wall) ∧ W'.cell? ⟨w.heap.size, 8, none⟩ = some (.int .i64 prio) ∧ W'.cell? ⟨w.heap.size, 9, none⟩ = some (.int .i64 array) ∧ W'.cell? ⟨w.heap.size, 10, none⟩ = some (.int .i64 retries) ∧ W'.cell? ⟨w.heap.size, 11, none⟩ = some (.bool held) ∧ W'.cell? ⟨w.heap.size, 12, none⟩ = some (.slice so n cp) ∧ W'.cell? ⟨ob, 0, none⟩ = some (.string user) ∧ W'.cell? ⟨ob, 1, none⟩ = some (.string part) ∧ W'.cell? ⟨ob, 2, none⟩ = some (.int .i64 nodes) ∧ W'.cell? ⟨ob, 3, none⟩ = some (.int .i64 da) ∧ W'.cell? ⟨ob, 4, none⟩ = some (.int .i64 db) ∧ W'.cell? ⟨ob, 5, none⟩ = some (.int .i64 dc) ∧ W'.cell? ⟨ob, 6, none⟩ = some (.int .i64 dd) ∧ W'.cell? ⟨ob, 7, none⟩ = some (.int .i64 wall) ∧ W'.cell? ⟨ob, 8, none⟩ = some (.int .i64 prio) ∧ W'.cell? ⟨ob, 9, none⟩ = some (.int .i64 array) ∧ W'.cell? ⟨ob, 10, none⟩ = some (.int .i64 retries) ∧ W'.cell? ⟨ob, 11, none⟩ = some (.bool held) ∧ W'.cell? ⟨ob, 12, none⟩ = some (.slice so2 n c2) := fun W h =>
    ⟨blk_cell (hTT W h).box 0, blk_cell (hTT W h).box 1, blk_cell (hTT W h).box 2, blk_cell (hTT W h).box 3, blk_cell (hTT W h).box 4, blk_cell (hTT W h).box 5, blk_cell (hTT W h).box 6, blk_cell (hTT W h).box 7, blk_cell (hTT W h).box 8, blk_cell (hTT W h).box 9, blk_cell (hTT W h).box 10, blk_cell (hTT W h).box 11, blk_cell (hTT W h).box 12, blk_cell (hTT W h).own 0, blk_cell (hTT W h).own 1, blk_cell (hTT W h).own 2, blk_cell (hTT W h).own 3, blk_cell (hTT W h).own 4, blk_cell (hTT W h).own 5, blk_cell (hTT W h).own 6, blk_cell (hTT W h).own 7, blk_cell (hTT W h).own 8, blk_cell (hTT W h).own 9, blk_cell (hTT W h).own 10, blk_cell (hTT W h).own 11, blk_cell (hTT W h).own 12⟩
  have hcur : Below w3.heap.size w3 w3.drew := (Below.refl _ _).drew
  replace hLV := Lib.hid hLV; replace hxl := Lib.hid hxl; replace hsps := Lib.hid hsps; replace hb3 := Lib.hid hb3; replace hGo := Lib.hid hGo; replace hN := Lib.hid hN; replace hT3 := Lib.hid hT3; replace hTT := Lib.hid hTT; replace hxo := Lib.hid hxo; replace hoo := Lib.hid hoo; replace hnd := Lib.hid hnd; replace hnr := Lib.hid hnr; replace hrx := Lib.hid hrx; replace hrw := Lib.hid hrw; replace hS := Lib.hid hS; replace hcur := Lib.hid hcur; replace hEx := Lib.hid hEx
  go_upto_region 9 with fail
  go_cut [36] (fun bv wx => RwC w3 false bv wx)
  case first =>
    go_region_held3 (fun W' => W'.cell? ⟨w.heap.size, 0, none⟩ = some (.string user) ∧ W'.cell? ⟨w.heap.size, 1, none⟩ = some (.string part) ∧ W'.cell? ⟨w.heap.size, 2, none⟩ = some (.int .i64 nodes) ∧ W'.cell? ⟨w.heap.size, 3, none⟩ = some (.int .i64 da) ∧ W'.cell? ⟨w.heap.size, 4, none⟩ = some (.int .i64 db) ∧ W'.cell? ⟨w.heap.size, 5, none⟩ = some (.int .i64 dc) ∧ W'.cell? ⟨w.heap.size, 6, none⟩ = some (.int .i64 dd) ∧ W'.cell? ⟨w.heap.size, 7, none⟩ = some (.int .i64 wall) ∧ W'.cell? ⟨w.heap.size, 8, none⟩ = some (.int .i64 prio) ∧ W'.cell? ⟨w.heap.size, 9, none⟩ = some (.int .i64 array) ∧ W'.cell? ⟨w.heap.size, 10, none⟩ = some (.int .i64 retries) ∧ W'.cell? ⟨w.heap.size, 11, none⟩ = some (.bool held) ∧ W'.cell? ⟨w.heap.size, 12, none⟩ = some (.slice so n cp) ∧ W'.cell? ⟨ob, 0, none⟩ = some (.string user) ∧ W'.cell? ⟨ob, 1, none⟩ = some (.string part) ∧ W'.cell? ⟨ob, 2, none⟩ = some (.int .i64 nodes) ∧ W'.cell? ⟨ob, 3, none⟩ = some (.int .i64 da) ∧ W'.cell? ⟨ob, 4, none⟩ = some (.int .i64 db) ∧ W'.cell? ⟨ob, 5, none⟩ = some (.int .i64 dc) ∧ W'.cell? ⟨ob, 6, none⟩ = some (.int .i64 dd) ∧ W'.cell? ⟨ob, 7, none⟩ = some (.int .i64 wall) ∧ W'.cell? ⟨ob, 8, none⟩ = some (.int .i64 prio) ∧ W'.cell? ⟨ob, 9, none⟩ = some (.int .i64 array) ∧ W'.cell? ⟨ob, 10, none⟩ = some (.int .i64 retries) ∧ W'.cell? ⟨ob, 11, none⟩ = some (.bool held) ∧ W'.cell? ⟨ob, 12, none⟩ = some (.slice so2 n c2))
      (first
        | with_reducible exact hS.out _ hcur.out)
      (first
        | (go_at_call 41
           (with_reducible refine (hrx.out _ hcur.out).mono ?_)
           rintro e wz ⟨so9, n9, c9, rfl, hS9, hbz⟩
           replace hcur := Lib.hid (hcur.out.trans (hbz.mono hcur.out.size))
           replace hS9 := Lib.hid hS9
           clear hbz)
        | (go_at_call 40
           (with_reducible refine (hrw.out _ _ _ _ hcur.out hS9.out).mono ?_)
           rintro e wz ⟨rfl, hbz⟩
           replace hcur := Lib.hid (hcur.out.trans (hbz.mono hcur.out.size))
           clear hbz hS9)
        | (go_at_call 42
           (with_reducible refine (hnd.out _ hcur.out).mono ?_)
           rintro e wz ⟨rfl, hbz⟩
           replace hcur := Lib.hid (hcur.out.trans (hbz.mono hcur.out.size))
           clear hbz)
        | (go_at_call 43
           (with_reducible refine (hnr.out _ hcur.out).mono ?_)
           rintro e wz ⟨rfl, hbz⟩
           replace hcur := Lib.hid (hcur.out.trans (hbz.mono hcur.out.size))
           clear hbz))
    all_goals
      go_wp2_with fail
      go_meet
      case rel => exact ⟨rfl, hcur.out⟩
  case rest =>
  obtain ⟨rfl, hl9⟩ := hcut
  have hLV9 := hLV.out.on hl9
  have hN4 : N ≤ 4096 := by have := hNle; rw [hN.out]; exact this
  clear hEx hcase hb3 hsps hGo hT3 hTT hxo hoo hnd hnr hrx hrw hE25 hS hcur hLV hN hfr hexp hT hNle hV
  replace hl9 := Lib.hid hl9; replace hLV9 := Lib.hid hLV9
  go_wp2
  go_loopw [6, 7] (fun i _ wr => ∃ k : Nat, i = .int .i64 k ∧ k ≤ N ∧ Hid (LpV w ⟨⟨user, part, nodes, ⟨da, db, dc, dd⟩, wall, prio, array, retries, held, after⟩, so, n, cp⟩ ⟨⟨user, part, nodes, ⟨da, db, dc, dd⟩, wall, prio, array, retries, held, after⟩, so2, n, c2⟩ ob ls N xs k 0 wr)) (fun i _ _ => N - (intOf i).toNat)
  case atStart => exact ⟨0, rfl, Nat.zero_le _, hLV9.out⟩
  case round =>
    obtain ⟨k, rfl, hk, hL⟩ := hrel
    by_cases hc : k < N
    · have hc1 : (k : Int) < N := by omega
      have hk0 : (0 : Int) ≤ (k : Int) := by omega
      obtain ⟨y, hy⟩ : ∃ y, xs[k]? = some y := ⟨_, List.getElem?_eq_getElem (by have := hxl.out; omega)⟩
      obtain ⟨g, rfl, hLW⟩ := hL.out.get hc
      replace hy := Lib.hid hy; replace hLW := Lib.hid hLW
      go_wp2
      go_loopw [7] (fun j wr => ∃ m : Nat, j = .int .i64 m ∧ m ≤ n ∧ Hid (LpW w ⟨⟨user, part, nodes, ⟨da, db, dc, dd⟩, wall, prio, array, retries, held, after⟩, so, n, cp⟩ ⟨⟨user, part, nodes, ⟨da, db, dc, dd⟩, wall, prio, array, retries, held, after⟩, so2, n, c2⟩ ob g N xs k m wr)) (fun j _ => n - (intOf j).toNat)
      case atStart => exact ⟨0, rfl, Nat.zero_le _, hLW.out⟩
      case round =>
        obtain ⟨m, rfl, hm, hL2⟩ := hrel
        have l12 := hL2.out.at hy.out
        obtain ⟨yn, hf, zs, hz, _⟩ := hL2.out.one k y hy.out
        have yn' : y.n = n := yn
        rw [yn'] at l12
        by_cases hd : m < n
        · have hd1 : (m : Int) < n := by omega
          have hm0 : (0 : Int) ≤ (m : Int) := by omega
          obtain ⟨z, hz1⟩ : ∃ z, zs[m]? = some z := ⟨_, List.getElem?_eq_getElem (by have := hz.len; omega)⟩
          obtain ⟨b, o, e, hb, hcell⟩ := hz.cell m z hz1
          obtain ⟨rfl, hgb, cc, hcc⟩ := hf b o e
          rw [e] at l12
          rw [Nat.zero_add] at hcell
          have hfz := blk_free hcc
          have hset := hL2.out.set hy.out e hd
          have hwrap : IntKind.i64.wrap (1000 + (k : Int)) = 1000 + (k : Int) := IntWalk.i64_in _ (by omega)
          clear hcc hz1 hz hf yn hgb
          replace hset := Lib.hid hset; replace e := Lib.hid e; replace yn' := Lib.hid yn'
          go_wp2
          go_roundw
          case rel => exact ⟨m + 1, by go_num, by omega, hset.out⟩
          case measure => simp [intOf]; omega
        · have hd1 : ¬ (m : Int) < n := by omega
          have hmn : m = n := by omega
          subst hmn
          clear hf hz
          have hup := hL2.out.up
          replace hup := Lib.hid hup; replace yn := Lib.hid yn; replace yn' := Lib.hid yn'
          go_wp2
          go_roundw
          case rel => exact ⟨k + 1, by go_num, by omega, hup.out.two, .inr ⟨g, rfl, hup.out⟩⟩
          case measure => simp [intOf]; omega
    · have hc1 : ¬ (k : Int) < N := by omega
      have hkN : k = N := by omega
      have hLN : LpV w ⟨⟨user, part, nodes, ⟨da, db, dc, dd⟩, wall, prio, array, retries, held, after⟩, so, n, cp⟩ ⟨⟨user, part, nodes, ⟨da, db, dc, dd⟩, wall, prio, array, retries, held, after⟩, so2, n, c2⟩ ob ls N xs N 0 wr := by have h := hL.out; rw [hkN] at h; exact h
      clear hL hkN
      replace hLN := Lib.hid hLN
      go_wp2
      go_loopw [8, 9] (fun i _ wr => ∃ k : Nat, i = .int .i64 k ∧ k ≤ N ∧ Hid (LpV w ⟨⟨user, part, nodes, ⟨da, db, dc, dd⟩, wall, prio, array, retries, held, after⟩, so, n, cp⟩ ⟨⟨user, part, nodes, ⟨da, db, dc, dd⟩, wall, prio, array, retries, held, after⟩, so2, n, c2⟩ ob ls N xs N 0 wr)) (fun i _ _ => N - (intOf i).toNat)
      case atStart => exact ⟨0, rfl, Nat.zero_le _, hLN.out⟩
      case round =>
        obtain ⟨k2, rfl, hk2, hL3⟩ := hrel
        by_cases hc2 : k2 < N
        · have hc21 : (k2 : Int) < N := by omega
          have hk20 : (0 : Int) ≤ (k2 : Int) := by omega
          obtain ⟨y, hy⟩ : ∃ y, xs[k2]? = some y := ⟨_, List.getElem?_eq_getElem (by have := hxl.out; omega)⟩
          obtain ⟨g, rfl, hLW⟩ := hL3.out.get hc2
          replace hy := Lib.hid hy; replace hLW := Lib.hid hLW
          go_wp2
          go_loopw [9] (fun j wr => ∃ m : Nat, j = .int .i64 m ∧ m ≤ n ∧ Hid (LpW w ⟨⟨user, part, nodes, ⟨da, db, dc, dd⟩, wall, prio, array, retries, held, after⟩, so, n, cp⟩ ⟨⟨user, part, nodes, ⟨da, db, dc, dd⟩, wall, prio, array, retries, held, after⟩, so2, n, c2⟩ ob g N xs N 0 wr)) (fun j _ => n - (intOf j).toNat)
          case atStart => exact ⟨0, rfl, Nat.zero_le _, hLW.out⟩
          case round =>
            obtain ⟨m, rfl, hm, hL2⟩ := hrel
            have l12 := hL2.out.at hy.out
            obtain ⟨yn, hf, zs, hz, hzs⟩ := hL2.out.one k2 y hy.out
            have yn' : y.n = n := yn
            rw [yn'] at l12
            by_cases hd : m < n
            · have hd1 : (m : Int) < n := by omega
              have hm0 : (0 : Int) ≤ (m : Int) := by omega
              have hz1 := hzs m hd (.inl hc2)
              obtain ⟨b, o, e, hb, hcell⟩ := hz.cell m _ hz1
              obtain ⟨rfl, hgb, cc, hcc⟩ := hf b o e
              rw [e] at l12
              rw [Nat.zero_add] at hcell
              have hwrap : IntKind.i64.wrap (1000 + (k2 : Int)) = 1000 + (k2 : Int) := IntWalk.i64_in _ (by omega)
              clear hcc hz1 hz hf yn hgb hzs
              replace e := Lib.hid e; replace yn' := Lib.hid yn'
              go_wp2
              go_roundw
              case rel => exact ⟨m + 1, by go_num, by omega, hL2.out⟩
              case measure => simp [intOf]; omega
            · have hd1 : ¬ (m : Int) < n := by omega
              clear hf hz hzs
              replace yn := Lib.hid yn; replace yn' := Lib.hid yn'
              go_wp2
              go_roundw
              case rel => exact ⟨k2 + 1, by go_num, by omega, hL2.out.two, .inr ⟨g, rfl, hL2.out⟩⟩
              case measure => simp [intOf]; omega
        · have hc21 : ¬ (k2 : Int) < N := by omega
          have hT9 := hL3.out.two
          have y0 : wr.cell? ⟨ob, 0, none⟩ = some (.string user) := blk_cell (hT9.own) 0
          have y1 : wr.cell? ⟨ob, 1, none⟩ = some (.string part) := blk_cell (hT9.own) 1
          have y2 : wr.cell? ⟨ob, 2, none⟩ = some (.int .i64 nodes) := blk_cell (hT9.own) 2
          have y3 : wr.cell? ⟨ob, 3, none⟩ = some (.int .i64 da) := blk_cell (hT9.own) 3
          have y4 : wr.cell? ⟨ob, 4, none⟩ = some (.int .i64 db) := blk_cell (hT9.own) 4
          have y5 : wr.cell? ⟨ob, 5, none⟩ = some (.int .i64 dc) := blk_cell (hT9.own) 5
          have y6 : wr.cell? ⟨ob, 6, none⟩ = some (.int .i64 dd) := blk_cell (hT9.own) 6
          have y7 : wr.cell? ⟨ob, 7, none⟩ = some (.int .i64 wall) := blk_cell (hT9.own) 7
          have y8 : wr.cell? ⟨ob, 8, none⟩ = some (.int .i64 prio) := blk_cell (hT9.own) 8
          have y9 : wr.cell? ⟨ob, 9, none⟩ = some (.int .i64 array) := blk_cell (hT9.own) 9
          have y10 : wr.cell? ⟨ob, 10, none⟩ = some (.int .i64 retries) := blk_cell (hT9.own) 10
          have y11 : wr.cell? ⟨ob, 11, none⟩ = some (.bool held) := blk_cell (hT9.own) 11
          have y12 : wr.cell? ⟨ob, 12, none⟩ = some (.slice so2 n c2) := blk_cell (hT9.own) 12
          have z0 : wr.cell? ⟨w.heap.size, 0, none⟩ = some (.string user) := blk_cell (hT9.box) 0
          have z1 : wr.cell? ⟨w.heap.size, 1, none⟩ = some (.string part) := blk_cell (hT9.box) 1
          have z2 : wr.cell? ⟨w.heap.size, 2, none⟩ = some (.int .i64 nodes) := blk_cell (hT9.box) 2
          have z3 : wr.cell? ⟨w.heap.size, 3, none⟩ = some (.int .i64 da) := blk_cell (hT9.box) 3
          have z4 : wr.cell? ⟨w.heap.size, 4, none⟩ = some (.int .i64 db) := blk_cell (hT9.box) 4
          have z5 : wr.cell? ⟨w.heap.size, 5, none⟩ = some (.int .i64 dc) := blk_cell (hT9.box) 5
          have z6 : wr.cell? ⟨w.heap.size, 6, none⟩ = some (.int .i64 dd) := blk_cell (hT9.box) 6
          have z7 : wr.cell? ⟨w.heap.size, 7, none⟩ = some (.int .i64 wall) := blk_cell (hT9.box) 7
          have z8 : wr.cell? ⟨w.heap.size, 8, none⟩ = some (.int .i64 prio) := blk_cell (hT9.box) 8
          have z9 : wr.cell? ⟨w.heap.size, 9, none⟩ = some (.int .i64 array) := blk_cell (hT9.box) 9
          have z10 : wr.cell? ⟨w.heap.size, 10, none⟩ = some (.int .i64 retries) := blk_cell (hT9.box) 10
          have z11 : wr.cell? ⟨w.heap.size, 11, none⟩ = some (.bool held) := blk_cell (hT9.box) 11
          have z12 : wr.cell? ⟨w.heap.size, 12, none⟩ = some (.slice so n cp) := blk_cell (hT9.box) 12
          have hsm : Calls Tryd.prog 24 #[(⟨⟨user, part, nodes, ⟨da, db, dc, dd⟩, wall, prio, array, retries, held, after⟩, so2, n, c2⟩ : Spv).val, (⟨⟨user, part, nodes, ⟨da, db, dc, dd⟩, wall, prio, array, retries, held, after⟩, so, n, cp⟩ : Spv).val] wr fun e w' => e = .returned (.bool true) ∧ Below wr.heap.size wr w' := by
            refine (same_any8 ⟨⟨user, part, nodes, ⟨da, db, dc, dd⟩, wall, prio, array, retries, held, after⟩, so2, n, c2⟩ ⟨⟨user, part, nodes, ⟨da, db, dc, dd⟩, wall, prio, array, retries, held, after⟩, so, n, cp⟩ wr hT9.ook (hx.out.low hT9.low)).mono ?_
            rintro e w9 ⟨rfl, hb⟩
            exact ⟨congrArg (fun q => Ending.returned (.bool q)) (decide_eq_true rfl), hb⟩
          replace hT9 := Lib.hid hT9; replace hsm := Lib.hid hsm
          go_wp2_with fail
          refine hsm.out.mono ?_
          rintro e w9 ⟨rfl, hb9⟩
          clear y0 y1 y2 y3 y4 y5 y6 y7 y8 y9 y10 y11 y12
          clear z0 z1 z2 z3 z4 z5 z6 z7 z8 z9 z10 z11 z12
          replace hb9 := Lib.hid hb9
          go_wp2
          go_ret
          exact ⟨rfl, hT9.out.low.trans (hb9.out.mono hT9.out.low.size)⟩
end Go.Proofs.YteoihdkaoipocaaDoor
