/- Parts Saw, Rst, Rrw, Rky, Rse, Rsf, Rpp, Ssm in one text. Plain theorems: no condition. -/
import Derived.Test.YteoihdkaoipocaaDoorQd
import Derived.Test.YteoihdkaoipocaaDoorQc
import Derived.Deep.RegionHeld3
import Derived.Deep.DeepCutAuto
/- spec.Need; corveelaw08.awake: the document's examples of specs. -/
namespace Go.Proofs.YteoihdkaoipocaaDoor
open Go.RowKit Go.Maps Go.Shelf Go.Sort

def needS (s : Spp) : V4 := if mayS s = true then ⟨s.dem.a * s.nodes, s.dem.b * s.nodes, s.dem.c * s.nodes, s.dem.d * s.nodes⟩ else V4.zero
def aP1 : ByteArray := { data := #[117, 115, 101, 114, 61, 97, 110, 97, 32, 112, 97, 114, 116, 61, 109, 97, 105, 110, 32, 110, 111, 100, 101, 115, 61, 50, 32, 100, 101, 109, 97, 110, 100, 61, 49, 44, 48, 44, 48, 44, 48, 32, 119, 97, 108, 108, 61, 49, 48] }
def aP2 : ByteArray := { data := #[117, 115, 101, 114, 61, 97, 110, 97, 32, 112, 97, 114, 116, 61, 109, 97, 105, 110, 32, 110, 111, 100, 101, 115, 61, 48, 32, 100, 101, 109, 97, 110, 100, 61, 49, 44, 48, 44, 48, 44, 48, 32, 119, 97, 108, 108, 61, 49, 48] }
def aS1 : Spp := ⟨{ data := #[97, 110, 97] }, { data := #[109, 97, 105, 110] }, 2, ⟨1, 0, 0, 0⟩, 10, 0, 1, 0, false, []⟩
theorem aQ1 : parseOf aP1 = (aS1, 0, 0) := by kernel_rfl
theorem aQ2 : (parseOf aP2).2 = (80, 3) := by kernel_rfl
theorem itoa_small (n : Nat) (h : n < 10) : Lib.itoa (n : Int) = [UInt8.ofNat (48 + n)] := by
  rw [itoa_pos (by omega), Lib.decDigits, dif_pos (by omega)]
  congr
theorem aT1' : ofL (textS aS1) = ({ data := #[117, 115, 101, 114, 61, 97, 110, 97, 32, 112, 97, 114, 116, 61, 109, 97, 105, 110, 32, 110, 111, 100, 101, 115, 61, 50, 32, 100, 101, 109, 97, 110, 100, 61, 49, 44, 48, 44, 48, 44, 48, 32, 119, 97, 108, 108, 61, 49, 48] } : ByteArray) := by
  have e10 : Lib.itoa 10 = [49, 48] := by
    rw [itoa_pos (by decide), Lib.decDigits, dif_neg (by decide), Lib.decDigits, dif_pos (by decide)]; rfl
  have e0 : Lib.itoa 0 = [48] := itoa_small 0 (by decide)
  have e1 : Lib.itoa 1 = [49] := itoa_small 1 (by decide)
  have e2 : Lib.itoa 2 = [50] := itoa_small 2 (by decide)
  have hm : mayS aS1 = true := by kernel_rfl
  rw [textS_may hm]
  have hp : pairsS aS1 = [(kUser, [97, 110, 97]), (kPart, [109, 97, 105, 110]), (kNodes, Lib.itoa 2), (kDemand, txtV ⟨1, 0, 0, 0⟩), (kWall, Lib.itoa 10)] := by kernel_rfl
  rw [hp, e10, e2]
  unfold txtV
  simp only [e0, e1]
  rfl
theorem aNeed : needS aS1 = ⟨2, 0, 0, 0⟩ := by kernel_rfl
/-- what stands while a need is reckoned -/
structure NdW8 (w : World) (x : Spv) (v : V4) (W : World) : Prop where
  low : Below w.heap.size w W
  box : W.heap[w.heap.size]? = some (.cells x.cells 28 (0, 0))
  res : W.heap[w.heap.size + 1]? = some (.cells V4.zero.cells 25 (0, 0))
  vec : W.heap[w.heap.size + 2]? = some (.cells v.cells 25 (0, 0))
theorem NdW8.set {w W : World} {x : Spv} {v v' : V4} (h : NdW8 w x v W) (o : Nat) (z : Value) (e : v.cells.setIfInBounds o z = v'.cells) : NdW8 w x v' (W.setCell ⟨w.heap.size + 2, o, none⟩ z) :=
  ⟨h.low.setCell (show w.heap.size ≤ w.heap.size + 2 by omega) _, blk_set_other (by omega) _ h.box, blk_set_other (by omega) _ h.res, by rw [← e]; exact blk_set h.vec o z⟩
theorem mul_bd {a n : Int} (h0 : 0 ≤ a) (h1 : a ≤ 1073741824) (h2 : 1 ≤ n) (h3 : n ≤ 16) : 0 ≤ a * n ∧ a * n ≤ 17179869184 := by
  refine ⟨Int.mul_nonneg h0 (by omega), ?_⟩
  have h4 : a * n ≤ 1073741824 * n := Int.mul_le_mul_of_nonneg_right h1 (by omega)
  omega
theorem nd_index (a b c d : Int) (j : Nat) (hj : j < 4) (w : World) : (Instr.index 25 (.agg #[.int .i64 a, .int .i64 b, .int .i64 c, .int .i64 d]) (.int .i64 (j : Int))).run Tryd.prog w = .ok (.int .i64 (V4.get ⟨a, b, c, d⟩ j)) w := vt_index a b c d j hj w
theorem mx4_zero (v : V4) : mx4 v 0 = V4.zero := by simp [mx4, V4.zero]
theorem mx4_four (v : V4) : mx4 v 4 = v := by simp [mx4]
theorem mx4_step (v : V4) (k : Nat) (hk : k < 4) : (mx4 v k).cells.setIfInBounds k (.int .i64 (v.get k)) = (mx4 v (k + 1)).cells := by
  rcases (show k = 0 ∨ k = 1 ∨ k = 2 ∨ k = 3 by omega) with rfl | rfl | rfl | rfl <;> simp [mx4, V4.get]
set_option maxRecDepth 100000 in
set_option maxHeartbeats 1600000 in
theorem need_any (x : Spv) (w : World) (hx : x.ok w) : Calls Tryd.prog 42 #[x.val] w fun e w' => e = .returned (needS x.pl).val ∧ Below w.heap.size w w' := by
  obtain ⟨W0, hW0⟩ : ∃ W0, W0 = ((w.alloc (.cells x.cells 28 (0, 0))).alloc (.cells V4.zero.cells 25 (0, 0))).alloc (.cells V4.zero.cells 25 (0, 0)) := ⟨_, rfl⟩
  have hN0 : NdW8 w x V4.zero W0 := by
    rw [hW0]
    exact ⟨(((Below.refl _ _).alloc (Nat.le_refl _) _).alloc (by simp) _).alloc (by simp; omega) _, blk_old _ (blk_old _ (blk_new _ _)), blk_old _ (blk_at _ _ (by simp)), blk_at _ _ (by simp)⟩
  have hk := check_any x W0 (hx.low hN0.low)
  by_cases hs : mayS x.pl = true
  rotate_left
  · have hte : needS x.pl = V4.zero := if_neg hs
    have he : errS x.pl = 80 := if_neg hs
    rw [he, hW0] at hk
    have hW0' := Lib.hid hW0
    clear hW0
    obtain ⟨⟨user, part, nodes, ⟨da, db, dc, dd⟩, wall, prio, array, retries, held, after⟩, so, n, cp⟩ := x
    replace hte := Lib.hid hte; replace hk := Lib.hid hk; replace hN0 := Lib.hid hN0; replace hx := Lib.hid hx; replace hs := Lib.hid hs; replace he := Lib.hid he
    go_enter Tryd.func42, Tryd.ntmps42
    go_wp2_with fail
    refine hk.out.mono ?_
    rintro e w1 ⟨rfl, hb⟩
    rw [← hW0'.out] at hb
    have hlow : Below w.heap.size w w1 := hN0.out.low.trans (hb.mono hN0.out.low.size)
    have hr := blk_below hb hN0.out.res (blk_lt hN0.out.res)
    have hv := blk_below hb hN0.out.vec (blk_lt hN0.out.vec)
    have r0 : w1.cell? ⟨w.heap.size + 1, 0, none⟩ = some (.int .i64 0) := blk_cell hr 0
    have r1 : w1.cell? ⟨w.heap.size + 1, 1, none⟩ = some (.int .i64 0) := blk_cell hr 1
    have r2 : w1.cell? ⟨w.heap.size + 1, 2, none⟩ = some (.int .i64 0) := blk_cell hr 2
    have r3 : w1.cell? ⟨w.heap.size + 1, 3, none⟩ = some (.int .i64 0) := blk_cell hr 3
    have v0 : w1.cell? ⟨w.heap.size + 2, 0, none⟩ = some (.int .i64 0) := blk_cell hv 0
    have v1 : w1.cell? ⟨w.heap.size + 2, 1, none⟩ = some (.int .i64 0) := blk_cell hv 1
    have v2 : w1.cell? ⟨w.heap.size + 2, 2, none⟩ = some (.int .i64 0) := blk_cell hv 2
    have v3 : w1.cell? ⟨w.heap.size + 2, 3, none⟩ = some (.int .i64 0) := blk_cell hv 3
    have fr := blk_free hr
    replace hb := Lib.hid hb; replace hlow := Lib.hid hlow; replace hr := Lib.hid hr; replace hv := Lib.hid hv
    go_wp2
    refine bodyPost_ret (v := V4.zero.val) (by simp [results, Tryd.results42, go_sem, r0, r1, r2, r3, V4.zero]) rfl ⟨by rw [hte.out], ?_⟩
    exact ((((hlow.out.setCell (Nat.le_succ _) _).setCell (Nat.le_succ _) _).setCell (Nat.le_succ _) _).setCell (Nat.le_succ _) _)
  have he : errS x.pl = 0 := if_pos hs
  have hte : needS x.pl = ⟨x.pl.dem.a * x.pl.nodes, x.pl.dem.b * x.pl.nodes, x.pl.dem.c * x.pl.nodes, x.pl.dem.d * x.pl.nodes⟩ := if_pos hs
  rw [he, hW0] at hk
  have hW0' := Lib.hid hW0
  clear hW0
  obtain ⟨_, _, q3, _, q5, _⟩ := mayS_parts hs
  obtain ⟨h1, h2, h3, h4, h5, h6, h7, h8⟩ := capOk_right (demOk_iff.1 q3).1
  obtain ⟨n1, n2⟩ := betw_iff.1 q5
  obtain ⟨⟨user, part, nodes, ⟨da, db, dc, dd⟩, wall, prio, array, retries, held, after⟩, so, n, cp⟩ := x
  simp only at h1 h2 h3 h4 h5 h6 h7 h8 n1 n2
  obtain ⟨ma1, ma2⟩ := mul_bd h1 h2 n1 n2
  obtain ⟨mb1, mb2⟩ := mul_bd h3 h4 n1 n2
  obtain ⟨mc1, mc2⟩ := mul_bd h5 h6 n1 n2
  obtain ⟨md1, md2⟩ := mul_bd h7 h8 n1 n2
  replace hte := Lib.hid hte; replace hk := Lib.hid hk; replace hN0 := Lib.hid hN0; replace hx := Lib.hid hx; replace hs := Lib.hid hs; replace he := Lib.hid he; replace q3 := Lib.hid q3; replace q5 := Lib.hid q5
  go_enter Tryd.func42, Tryd.ntmps42
  go_wp2_with fail
  refine hk.out.mono ?_
  rintro e w1 ⟨rfl, hb⟩
  rw [← hW0'.out] at hb
  have hN1 : NdW8 w ⟨⟨user, part, nodes, ⟨da, db, dc, dd⟩, wall, prio, array, retries, held, after⟩, so, n, cp⟩ V4.zero w1 :=
    ⟨hN0.out.low.trans (hb.mono hN0.out.low.size), blk_below hb hN0.out.box (blk_lt hN0.out.box), blk_below hb hN0.out.res (blk_lt hN0.out.res), blk_below hb hN0.out.vec (blk_lt hN0.out.vec)⟩
  have y0 : w1.cell? ⟨w.heap.size, 0, none⟩ = some (.string user) := blk_cell hN1.box 0
  have y1 : w1.cell? ⟨w.heap.size, 1, none⟩ = some (.string part) := blk_cell hN1.box 1
  have y2 : w1.cell? ⟨w.heap.size, 2, none⟩ = some (.int .i64 nodes) := blk_cell hN1.box 2
  have y3 : w1.cell? ⟨w.heap.size, 3, none⟩ = some (.int .i64 da) := blk_cell hN1.box 3
  have y4 : w1.cell? ⟨w.heap.size, 4, none⟩ = some (.int .i64 db) := blk_cell hN1.box 4
  have y5 : w1.cell? ⟨w.heap.size, 5, none⟩ = some (.int .i64 dc) := blk_cell hN1.box 5
  have y6 : w1.cell? ⟨w.heap.size, 6, none⟩ = some (.int .i64 dd) := blk_cell hN1.box 6
  have y7 : w1.cell? ⟨w.heap.size, 7, none⟩ = some (.int .i64 wall) := blk_cell hN1.box 7
  have y8 : w1.cell? ⟨w.heap.size, 8, none⟩ = some (.int .i64 prio) := blk_cell hN1.box 8
  have y9 : w1.cell? ⟨w.heap.size, 9, none⟩ = some (.int .i64 array) := blk_cell hN1.box 9
  have y10 : w1.cell? ⟨w.heap.size, 10, none⟩ = some (.int .i64 retries) := blk_cell hN1.box 10
  have y11 : w1.cell? ⟨w.heap.size, 11, none⟩ = some (.bool held) := blk_cell hN1.box 11
  have y12 : w1.cell? ⟨w.heap.size, 12, none⟩ = some (.slice so n cp) := blk_cell hN1.box 12
  replace hb := Lib.hid hb; replace hN1 := Lib.hid hN1
  go_wp2
  clear y0 y1 y2 y3 y4 y5 y6 y7 y8 y9 y10 y11 y12
  go_loopw [4, 5, 12] (fun _ _ i wr => ∃ k : Nat, i = .int .i64 k ∧ k ≤ 4 ∧ Hid (NdW8 w ⟨⟨user, part, nodes, ⟨da, db, dc, dd⟩, wall, prio, array, retries, held, after⟩, so, n, cp⟩ (mx4 ⟨da * nodes, db * nodes, dc * nodes, dd * nodes⟩ k) wr)) (fun _ _ i _ => 4 - (intOf i).toNat)
  case atStart => exact ⟨0, rfl, by omega, by rw [mx4_zero]; exact hN1.out⟩
  case round =>
    obtain ⟨k, rfl, hk4, hN⟩ := hrel
    by_cases hc : k < 4
    · have hc1 : (k : Int) < 4 := by omega
      have hk0 : (0 : Int) ≤ (k : Int) := by omega
      have hix := fun w => nd_index da db dc dd k hc w
      have hst := hN.out.set k _ (mx4_step ⟨da * nodes, db * nodes, dc * nodes, dd * nodes⟩ k hc)
      have ev : (V4.get ⟨da, db, dc, dd⟩ k) * nodes = V4.get ⟨da * nodes, db * nodes, dc * nodes, dd * nodes⟩ k := by
        rcases (show k = 0 ∨ k = 1 ∨ k = 2 ∨ k = 3 by omega) with rfl | rfl | rfl | rfl <;> rfl
      obtain ⟨y, hy⟩ : ∃ y, y = V4.get ⟨da, db, dc, dd⟩ k := ⟨_, rfl⟩
      have hyb : 0 ≤ y * nodes ∧ y * nodes ≤ 17179869184 := by
        rw [hy, ev]
        rcases (show k = 0 ∨ k = 1 ∨ k = 2 ∨ k = 3 by omega) with rfl | rfl | rfl | rfl
        · exact ⟨ma1, ma2⟩
        · exact ⟨mb1, mb2⟩
        · exact ⟨mc1, mc2⟩
        · exact ⟨md1, md2⟩
      obtain ⟨hy1, hy2⟩ := hyb
      rw [← ev] at hst
      rw [← hy] at hix hst
      have c2 : wr.cell? ⟨w.heap.size, 2, none⟩ = some (.int .i64 nodes) := blk_cell hN.out.box 2
      have fv := blk_free hN.out.vec
      obtain ⟨vk, hvk⟩ : ∃ vk, wr.cell? ⟨w.heap.size + 2, k, none⟩ = some vk := by
        rw [blk_cell hN.out.vec]
        exact ⟨_, Array.getElem?_eq_getElem (by simpa using hc)⟩
      replace hst := Lib.hid hst; replace hy := Lib.hid hy; replace ev := Lib.hid ev
      go_wp2
      go_roundw
      case rel => exact ⟨k + 1, by go_num, by omega, hst.out⟩
      case measure => simp [intOf]; omega
    · have hc1 : ¬ (k : Int) < 4 := by omega
      have hk44 : k = 4 := by omega
      have hN4 := hN.out
      rw [hk44, mx4_four] at hN4
      have hr := hN4.res
      have hv := hN4.vec
      have hlow := hN4.low
      have r0 : wr.cell? ⟨w.heap.size + 1, 0, none⟩ = some (.int .i64 0) := blk_cell hr 0
      have r1 : wr.cell? ⟨w.heap.size + 1, 1, none⟩ = some (.int .i64 0) := blk_cell hr 1
      have r2 : wr.cell? ⟨w.heap.size + 1, 2, none⟩ = some (.int .i64 0) := blk_cell hr 2
      have r3 : wr.cell? ⟨w.heap.size + 1, 3, none⟩ = some (.int .i64 0) := blk_cell hr 3
      have v0 : wr.cell? ⟨w.heap.size + 2, 0, none⟩ = some (.int .i64 (da * nodes)) := blk_cell hv 0
      have v1 : wr.cell? ⟨w.heap.size + 2, 1, none⟩ = some (.int .i64 (db * nodes)) := blk_cell hv 1
      have v2 : wr.cell? ⟨w.heap.size + 2, 2, none⟩ = some (.int .i64 (dc * nodes)) := blk_cell hv 2
      have v3 : wr.cell? ⟨w.heap.size + 2, 3, none⟩ = some (.int .i64 (dd * nodes)) := blk_cell hv 3
      have fr := blk_free hr
      replace hlow := Lib.hid hlow; replace hr := Lib.hid hr; replace hv := Lib.hid hv; replace hk44 := Lib.hid hk44; replace hN4 := Lib.hid hN4
      go_wp2
      refine bodyPost_ret (v := (⟨da * nodes, db * nodes, dc * nodes, dd * nodes⟩ : V4).val) (by simp [results, Tryd.results42, go_sem, r0, r1, r2, r3]) rfl ⟨by rw [hte.out], ?_⟩
      exact ((((hlow.out.setCell (Nat.le_succ _) _).setCell (Nat.le_succ _) _).setCell (Nat.le_succ _) _).setCell (Nat.le_succ _) _)
theorem eq25n (u v : V4) (w : World) (h : u = v) : (Op.equalIn 10000 25 u.val v.val).run Tryd.prog w = .ok true w := by rw [eq25, decide_eq_true h]
theorem aEq8 (w : World) : (Op.equalIn 10000 25 (.agg #[.int .i64 2, .int .i64 0, .int .i64 0, .int .i64 0]) (.agg #[.int .i64 2, .int .i64 0, .int .i64 0, .int .i64 0])).run Tryd.prog w = .ok true w := by kernel_rfl
set_option maxRecDepth 100000 in
set_option maxHeartbeats 3200000 in
theorem awake8 (w : World) (hm : Mx w) (ht : Tb w) : Calls Tryd.prog 21 #[] w fun e w' => e = .returned (.bool true) ∧ Below w.heap.size w w' := by
  have hc1 := parse_any aP1 w hm
  unfold ParsePost at hc1
  rw [aQ1] at hc1
  replace hc1 := Lib.hid hc1; replace ht := Lib.hid ht; replace hm := Lib.hid hm
  go_enter Tryd.func21, Tryd.ntmps21
  go_wp2_with fail
  refine hc1.out.mono ?_
  rintro e w1 ⟨x, rfl, hxo, hxp, hb1, hfr1⟩
  clear hfr1
  obtain ⟨pl, so, n, cp⟩ := x
  have hpl : pl = aS1 := hxp
  subst hpl
  obtain ⟨W2, hW2⟩ : ∃ W2, W2 = w1.alloc (.cells (⟨aS1, so, n, cp⟩ : Spv).cells 28 (0, 0)) := ⟨_, rfl⟩
  have hb2 : Below w1.heap.size w1 W2 := by rw [hW2]; exact (Below.refl _ _).alloc (Nat.le_refl _) _
  have hx2 : W2.heap[w1.heap.size]? = some (.cells (⟨aS1, so, n, cp⟩ : Spv).cells 28 (0, 0)) := by rw [hW2]; exact blk_new _ _
  have hlow2 := hb1.trans (hb2.mono hb1.size)
  have hc2 := parse_any aP2 W2 ((hm.out.low hb1).low hb2)
  unfold ParsePost at hc2
  rw [show (parseOf aP2).2.1 = 80 from by rw [aQ2], show (parseOf aP2).2.2 = 3 from by rw [aQ2]] at hc2
  rw [hW2] at hc2
  have hW2' := Lib.hid hW2
  clear hW2
  replace hxo := Lib.hid hxo; replace hxp := Lib.hid hxp; replace hb1 := Lib.hid hb1; replace hb2 := Lib.hid hb2; replace hx2 := Lib.hid hx2; replace hlow2 := Lib.hid hlow2; replace hc2 := Lib.hid hc2
  go_wp2_with fail
  refine hc2.out.mono ?_
  rw [← hW2'.out]
  rintro e w3 ⟨x3, rfl, hxo3, hx3p, hb3, hfr3⟩
  clear hx3p hfr3
  obtain ⟨⟨user, part, nodes, ⟨da, db, dc, dd⟩, wall, prio, array, retries, held, after⟩, so3, n3, cp3⟩ := x3
  obtain ⟨W4, hW4⟩ : ∃ W4, W4 = w3.alloc (.cells (⟨⟨user, part, nodes, ⟨da, db, dc, dd⟩, wall, prio, array, retries, held, after⟩, so3, n3, cp3⟩ : Spv).cells 28 (0, 0)) := ⟨_, rfl⟩
  have hb4 : Below w3.heap.size w3 W4 := by rw [hW4]; exact (Below.refl _ _).alloc (Nat.le_refl _) _
  have hb34 := hb3.trans (hb4.mono hb3.size)
  have hx4 := blk_below hb34 hx2.out (blk_lt hx2.out)
  have hlow4 := hlow2.out.trans (hb34.mono hlow2.out.size)
  have hok4 := ((hxo.out.low hb2.out).low hb34)
  have hct := stext_any ⟨aS1, so, n, cp⟩ W4 hok4 (ht.out.low hlow4)
  rw [show (⟨aS1, so, n, cp⟩ : Spv).pl = aS1 from rfl, aT1'] at hct
  have c0 : W4.cell? ⟨w1.heap.size, 0, none⟩ = some (.string { data := #[97, 110, 97] }) := blk_cell hx4 0
  have c1 : W4.cell? ⟨w1.heap.size, 1, none⟩ = some (.string { data := #[109, 97, 105, 110] }) := blk_cell hx4 1
  have c2 : W4.cell? ⟨w1.heap.size, 2, none⟩ = some (.int .i64 2) := blk_cell hx4 2
  have c3 : W4.cell? ⟨w1.heap.size, 3, none⟩ = some (.int .i64 1) := blk_cell hx4 3
  have c4 : W4.cell? ⟨w1.heap.size, 4, none⟩ = some (.int .i64 0) := blk_cell hx4 4
  have c5 : W4.cell? ⟨w1.heap.size, 5, none⟩ = some (.int .i64 0) := blk_cell hx4 5
  have c6 : W4.cell? ⟨w1.heap.size, 6, none⟩ = some (.int .i64 0) := blk_cell hx4 6
  have c7 : W4.cell? ⟨w1.heap.size, 7, none⟩ = some (.int .i64 10) := blk_cell hx4 7
  have c8 : W4.cell? ⟨w1.heap.size, 8, none⟩ = some (.int .i64 0) := blk_cell hx4 8
  have c9 : W4.cell? ⟨w1.heap.size, 9, none⟩ = some (.int .i64 1) := blk_cell hx4 9
  have c10 : W4.cell? ⟨w1.heap.size, 10, none⟩ = some (.int .i64 0) := blk_cell hx4 10
  have c11 : W4.cell? ⟨w1.heap.size, 11, none⟩ = some (.bool false) := blk_cell hx4 11
  have c12 : W4.cell? ⟨w1.heap.size, 12, none⟩ = some (.slice so n cp) := blk_cell hx4 12
  rw [hW4] at hct c0 c1 c2 c3 c4 c5 c6 c7 c8 c9 c10 c11 c12
  have hW4' := Lib.hid hW4
  clear hW4
  replace hxo3 := Lib.hid hxo3; replace hb3 := Lib.hid hb3; replace hb4 := Lib.hid hb4; replace hb34 := Lib.hid hb34; replace hx4 := Lib.hid hx4; replace hlow4 := Lib.hid hlow4; replace hok4 := Lib.hid hok4; replace hct := Lib.hid hct
  go_wp2_with fail
  refine hct.out.mono ?_
  rw [← hW4'.out]
  rintro e w5 ⟨rfl, hb5⟩
  have hx5 := blk_below hb5 hx4.out (blk_lt hx4.out)
  have hlow5 := hlow4.out.trans (hb5.mono hlow4.out.size)
  have hcn := need_any ⟨aS1, so, n, cp⟩ w5 (hok4.out.low hb5)
  rw [show needS (⟨aS1, so, n, cp⟩ : Spv).pl = ⟨2, 0, 0, 0⟩ from aNeed] at hcn
  clear c0 c1 c2 c3 c4 c5 c6 c7 c8 c9 c10 c11 c12
  have c0 : w5.cell? ⟨w1.heap.size, 0, none⟩ = some (.string { data := #[97, 110, 97] }) := blk_cell hx5 0
  have c1 : w5.cell? ⟨w1.heap.size, 1, none⟩ = some (.string { data := #[109, 97, 105, 110] }) := blk_cell hx5 1
  have c2 : w5.cell? ⟨w1.heap.size, 2, none⟩ = some (.int .i64 2) := blk_cell hx5 2
  have c3 : w5.cell? ⟨w1.heap.size, 3, none⟩ = some (.int .i64 1) := blk_cell hx5 3
  have c4 : w5.cell? ⟨w1.heap.size, 4, none⟩ = some (.int .i64 0) := blk_cell hx5 4
  have c5 : w5.cell? ⟨w1.heap.size, 5, none⟩ = some (.int .i64 0) := blk_cell hx5 5
  have c6 : w5.cell? ⟨w1.heap.size, 6, none⟩ = some (.int .i64 0) := blk_cell hx5 6
  have c7 : w5.cell? ⟨w1.heap.size, 7, none⟩ = some (.int .i64 10) := blk_cell hx5 7
  have c8 : w5.cell? ⟨w1.heap.size, 8, none⟩ = some (.int .i64 0) := blk_cell hx5 8
  have c9 : w5.cell? ⟨w1.heap.size, 9, none⟩ = some (.int .i64 1) := blk_cell hx5 9
  have c10 : w5.cell? ⟨w1.heap.size, 10, none⟩ = some (.int .i64 0) := blk_cell hx5 10
  have c11 : w5.cell? ⟨w1.heap.size, 11, none⟩ = some (.bool false) := blk_cell hx5 11
  have c12 : w5.cell? ⟨w1.heap.size, 12, none⟩ = some (.slice so n cp) := blk_cell hx5 12
  replace hb5 := Lib.hid hb5; replace hx5 := Lib.hid hx5; replace hlow5 := Lib.hid hlow5; replace hcn := Lib.hid hcn
  go_wp2_with fail
  refine hcn.out.mono ?_
  rintro e w6 ⟨rfl, hb6⟩
  have hlow6 := hlow5.out.trans (hb6.mono hlow5.out.size)
  have hE := aEq8
  replace hb6 := Lib.hid hb6; replace hlow6 := Lib.hid hlow6
  go_wp2
  go_ret
  exact ⟨rfl, hlow6.out⟩
end Go.Proofs.YteoihdkaoipocaaDoor

/- corveeref08.Text: the document's text of a spec. -/
namespace Go.Proofs.YteoihdkaoipocaaDoor
open Go.RowKit Go.Maps Go.Shelf Go.Sort

/-- a text's pieces so far -/
def five5 (s : Spp) : List UInt8 := [117, 115, 101, 114, 61] ++ s.user.data.toList ++ [32, 112, 97, 114, 116, 61] ++ s.part.data.toList ++ [32, 110, 111, 100, 101, 115, 61] ++ Lib.itoa s.nodes ++ [32, 100, 101, 109, 97, 110, 100, 61] ++ txtV s.dem ++ [32, 119, 97, 108, 108, 61] ++ Lib.itoa s.wall
def six6 (s : Spp) : List UInt8 := five5 s ++ (if s.prio = 0 then [] else [32, 112, 114, 105, 111, 61] ++ Lib.itoa s.prio)
def seven7 (s : Spp) : List UInt8 := six6 s ++ (if s.array = 1 then [] else [32, 97, 114, 114, 97, 121, 61] ++ Lib.itoa s.array)
def eight8 (s : Spp) : List UInt8 := seven7 s ++ (if s.retries = 0 then [] else [32, 114, 101, 116, 114, 105, 101, 115, 61] ++ Lib.itoa s.retries)
def nine9 (s : Spp) : List UInt8 := eight8 s ++ (if s.held = true then [32, 104, 101, 108, 100, 61, 49] else [])
def ten10 (s : Spp) (k : Nat) : List UInt8 := nine9 s ++ (if k = 0 then [] else [32, 97, 102, 116, 101, 114, 61] ++ listT (s.after.take k))
theorem inter_snoc (sep : List UInt8) (x : List UInt8) : ∀ (xs : List (List UInt8)), xs ≠ [] → sep.intercalate (xs ++ [x]) = sep.intercalate xs ++ sep ++ x
  | [y], _ => by simp [List.intercalate]
  | y :: z :: r, _ => by
    have e : sep.intercalate (y :: z :: r ++ [x]) = y ++ sep ++ sep.intercalate (z :: r ++ [x]) := by simp [List.intercalate]
    have e2 : sep.intercalate (y :: z :: r) = y ++ sep ++ sep.intercalate (z :: r) := by simp [List.intercalate]
    rw [e, e2, inter_snoc sep x (z :: r) (by simp)]
    simp
theorem inter_if (sep : List UInt8) (xs : List (List UInt8)) (hne : xs ≠ []) (c : Prop) [Decidable c] (x : List UInt8) : sep.intercalate (xs ++ (if c then [] else [x])) = sep.intercalate xs ++ (if c then [] else sep ++ x) := by
  by_cases h : c
  · rw [if_pos h, if_pos h]; simp
  · rw [if_neg h, if_neg h, inter_snoc _ _ _ hne]; simp
theorem inter_if' (sep : List UInt8) (xs : List (List UInt8)) (hne : xs ≠ []) (c : Prop) [Decidable c] (x : List UInt8) : sep.intercalate (xs ++ (if c then [x] else [])) = sep.intercalate xs ++ (if c then sep ++ x else []) := by
  by_cases h : c
  · rw [if_pos h, if_pos h, inter_snoc _ _ _ hne]; simp
  · rw [if_neg h, if_neg h]; simp
theorem ten10_all {s : Spp} (hs : mayS s = true) : ten10 s s.after.length = textS s := by
  rw [textS_may hs]
  show _ = List.intercalate [32] (kvs (pairsS s))
  have m1 : ∀ (c : Prop) [Decidable c] (p : ByteArray × List UInt8), kvs (if c then [] else [p]) = if c then [] else [kv p.1 p.2] := fun c _ p => by split <;> rfl
  have m2 : ∀ (c : Prop) [Decidable c] (p : ByteArray × List UInt8), kvs (if c then [p] else []) = if c then [kv p.1 p.2] else [] := fun c _ p => by split <;> rfl
  have ma : ∀ a b, kvs (a ++ b) = kvs a ++ kvs b := fun a b => by simp [kvs]
  unfold pairsS
  rw [ma, ma, ma, ma, ma, m1, m1, m1, m2, m1, inter_if _ _ (by simp [kvs]), inter_if' _ _ (by simp [kvs]), inter_if _ _ (by simp [kvs]), inter_if _ _ (by simp [kvs]), inter_if _ _ (by simp [kvs])]
  have e5 : List.intercalate [32] (kvs [(kUser, s.user.data.toList), (kPart, s.part.data.toList), (kNodes, Lib.itoa s.nodes), (kDemand, txtV s.dem), (kWall, Lib.itoa s.wall)]) = five5 s := by
    simp [kvs, List.intercalate, kv, five5, kUser, kPart, kNodes, kDemand, kWall]
  rw [e5]
  unfold ten10 nine9 eight8 seven7 six6
  have ea : (if s.after.length = 0 then ([] : List UInt8) else [32, 97, 102, 116, 101, 114, 61] ++ listT (s.after.take s.after.length)) = if s.after = [] then [] else [32] ++ kv kAfter (listT s.after) := by
    by_cases h : s.after = []
    · rw [if_pos h, if_pos (by rw [h]; rfl)]
    · rw [if_neg h, if_neg (fun c => h (List.length_eq_zero_iff.1 c)), List.take_of_length_le (Nat.le_refl _)]
      simp [kv, kAfter]
  rw [ea]
  have e1 : (if s.prio = 0 then ([] : List UInt8) else [32, 112, 114, 105, 111, 61] ++ Lib.itoa s.prio) = if s.prio = 0 then [] else [32] ++ kv kPrio (Lib.itoa s.prio) := by
    split
    · rfl
    · simp [kv, kPrio]
  have e2 : (if s.array = 1 then ([] : List UInt8) else [32, 97, 114, 114, 97, 121, 61] ++ Lib.itoa s.array) = if s.array = 1 then [] else [32] ++ kv kArray (Lib.itoa s.array) := by
    split
    · rfl
    · simp [kv, kArray]
  have e3 : (if s.retries = 0 then ([] : List UInt8) else [32, 114, 101, 116, 114, 105, 101, 115, 61] ++ Lib.itoa s.retries) = if s.retries = 0 then [] else [32] ++ kv kRetries (Lib.itoa s.retries) := by
    split
    · rfl
    · simp [kv, kRetries]
  have e4 : (if s.held = true then ([32, 104, 101, 108, 100, 61, 49] : List UInt8) else []) = if s.held = true then [32] ++ kv kHeld [49] else [] := by
    split
    · simp [kv, kHeld]
    · rfl
  rw [e1, e2, e3, e4]
theorem ten10_step {s : Spp} {k : Nat} {y : Int} (h : s.after[k]? = some y) : ten10 s (k + 1) = ten10 s k ++ (if k = 0 then [32, 97, 102, 116, 101, 114, 61] else [44]) ++ Lib.itoa y := by
  unfold ten10
  rw [if_neg (by omega), List.take_add_one, h]
  by_cases c : k = 0
  · subst c
    simp [listT, Lib.join]
  · rw [if_neg c, if_neg c]
    have : listT (s.after.take k ++ (some y).toList) = listT (s.after.take k) ++ [44] ++ Lib.itoa y := by
      unfold listT
      rw [List.map_append]
      exact inter_snoc [44] (Lib.itoa y) _ (by
        have := (List.getElem?_eq_some_iff.1 h).1
        intro e
        have e2 := congrArg List.length e
        rw [List.length_map, List.length_take, List.length_nil] at e2
        omega)
    rw [this]
    simp
theorem ten10_le {s : Spp} (hs : mayS s = true) (k : Nat) (hk : k ≤ s.after.length) : (ten10 s k).length ≤ 1810 := by
  have key : ∀ j, j + k ≤ s.after.length → (ten10 s k).length ≤ (ten10 s (j + k)).length := by
    intro j
    induction j with
    | zero => intro _; rw [Nat.zero_add]; exact Nat.le_refl _
    | succ j ih =>
      intro h
      have h' : j + k < s.after.length := by omega
      refine Nat.le_trans (ih (Nat.le_of_lt h')) ?_
      rw [show j + 1 + k = (j + k) + 1 by omega, ten10_step (List.getElem?_eq_getElem h')]
      simp only [List.length_append]
      omega
  have hkk : s.after.length - k + k = s.after.length := Nat.sub_add_cancel hk
  have h1 := key (s.after.length - k) (Nat.le_of_eq hkk)
  rw [hkk, ten10_all hs] at h1
  exact Nat.le_trans h1 (textS_len hs)
theorem nine9_le {s : Spp} (hs : mayS s = true) : (nine9 s).length ≤ 1810 := by
  have := ten10_le hs 0 (Nat.zero_le _)
  unfold ten10 at this
  simpa using this
theorem parts_le {s : Spp} (hs : mayS s = true) : (five5 s).length ≤ 1810 ∧ (six6 s).length ≤ 1810 ∧ (seven7 s).length ≤ 1810 ∧ (eight8 s).length ≤ 1810 := by
  have h := nine9_le hs
  have h8 : (eight8 s).length ≤ (nine9 s).length := by unfold nine9; rw [List.length_append]; omega
  have h7 : (seven7 s).length ≤ (eight8 s).length := by unfold eight8; rw [List.length_append]; omega
  have h6 : (six6 s).length ≤ (seven7 s).length := by unfold seven7; rw [List.length_append]; omega
  have h5 : (five5 s).length ≤ (six6 s).length := by unfold six6; rw [List.length_append]; omega
  exact ⟨by omega, by omega, by omega, by omega⟩
theorem five5_eq (s : Spp) : ({ data := #[117, 115, 101, 114, 61] } : ByteArray) ++ s.user ++ ({ data := #[32, 112, 97, 114, 116, 61] } : ByteArray) ++ s.part ++ ({ data := #[32, 110, 111, 100, 101, 115, 61] } : ByteArray) ++ ofL (Lib.itoa s.nodes) ++ ({ data := #[32, 100, 101, 109, 97, 110, 100, 61] } : ByteArray) ++ ofL (txtV s.dem) ++ ({ data := #[32, 119, 97, 108, 108, 61] } : ByteArray) ++ ofL (Lib.itoa s.wall) = ofL (five5 s) := by
  rw [show ({ data := #[117, 115, 101, 114, 61] } : ByteArray) = ofL [117, 115, 101, 114, 61] from rfl, show ({ data := #[32, 112, 97, 114, 116, 61] } : ByteArray) = ofL [32, 112, 97, 114, 116, 61] from rfl, show ({ data := #[32, 110, 111, 100, 101, 115, 61] } : ByteArray) = ofL [32, 110, 111, 100, 101, 115, 61] from rfl,
    show ({ data := #[32, 100, 101, 109, 97, 110, 100, 61] } : ByteArray) = ofL [32, 100, 101, 109, 97, 110, 100, 61] from rfl, show ({ data := #[32, 119, 97, 108, 108, 61] } : ByteArray) = ofL [32, 119, 97, 108, 108, 61] from rfl]
  conv => lhs; rw [← ofL_self s.user, ← ofL_self s.part]
  simp only [ofL_app]
  rfl
theorem piece_eq (a b c : List UInt8) {x y z : ByteArray} (hx : x = ofL a) (hy : y = ofL b) (hz : z = ofL c) : x ++ (y ++ z) = ofL (a ++ (b ++ c)) := by
  rw [hx, hy, hz, ofL_app, ofL_app]
theorem piece_eq2 (a b : List UInt8) {x y : ByteArray} (hx : x = ofL a) (hy : y = ofL b) : x ++ y = ofL (a ++ b) := by
  rw [hx, hy, ofL_app]
/-- the text so far, and the spec's box -/
structure RtA (w : World) (x : Spv) (T : ByteArray) (tv : Value) (wx : World) : Prop where
  t : tv = .string T
  low : Below w.heap.size w wx
  box : wx.heap[w.heap.size]? = some (.cells x.cells 28 (0, 0))
structure Tst (T : ByteArray) (W : World) (tv : Value) (wx : World) : Prop where
  t : tv = .string T
  w : W = wx

set_option maxRecDepth 100000 in
set_option maxHeartbeats 3200000 in
theorem rstext_any (x : Spv) (w : World) (hx : x.ok w) : Calls Tryd.prog 28 #[x.val] w fun e w' => e = .returned (.string (ofL (textS x.pl))) ∧ Below w.heap.size w w' := by
  have hB0 := BoxC.new w x
  have hk := may_any x _ (hB0.ok hx)
  by_cases hs : mayS x.pl = true
  rotate_left
  · have hte : textS x.pl = [] := if_neg hs
    have he : mayS x.pl = false := by simpa using hs
    rw [he] at hk
    obtain ⟨⟨user, part, nodes, ⟨da, db, dc, dd⟩, wall, prio, array, retries, held, after⟩, so, n, cp⟩ := x
    replace hte := Lib.hid hte; replace hk := Lib.hid hk; replace hB0 := Lib.hid hB0; replace hx := Lib.hid hx; replace hs := Lib.hid hs; replace he := Lib.hid he
    go_enter Tryd.func28, Tryd.ntmps28
    go_wp2_with fail
    refine hk.out.mono ?_
    rintro e w1 ⟨rfl, hb⟩
    have hB1 := hB0.out.below hb
    replace hB1 := Lib.hid hB1; replace hb := Lib.hid hb
    go_wp2
    go_ret
    exact ⟨by rw [hte.out]; rfl, hB1.out.low⟩
  rw [hs] at hk
  obtain ⟨q1, q2, q3, q4, q5, q6, q7, q8, q9⟩ := mayS_parts hs
  have qd := demOk_iff.1 q3
  have a1 := isName_le q1
  have a2 := isName_le q2
  have hv64 := v64_cap (capOk_right qd.1)
  have a3 := txtV_len hv64
  have b5 := betw_iff.1 q5
  have b6 := betw_iff.1 q6
  have b7 := betw_iff.1 q7
  have b8 := betw_iff.1 q8
  have b9 := betw_iff.1 q9
  have d5 := itoa_bd (n := x.pl.nodes) (by omega) (by omega)
  have d6 := itoa_bd (n := x.pl.wall) (by omega) (by omega)
  have d7 := itoa_bd (n := x.pl.prio) (by omega) (by omega)
  have d8 := itoa_bd (n := x.pl.array) (by omega) (by omega)
  have d9 := itoa_bd (n := x.pl.retries) (by omega) (by omega)
  obtain ⟨V1, hV1⟩ : ∃ V, V = ofL (Lib.itoa x.pl.nodes) := ⟨_, rfl⟩
  obtain ⟨V2, hV2⟩ : ∃ V, V = ofL (txtV x.pl.dem) := ⟨_, rfl⟩
  obtain ⟨V3, hV3⟩ : ∃ V, V = ofL (Lib.itoa x.pl.wall) := ⟨_, rfl⟩
  obtain ⟨V4', hV4⟩ : ∃ V, V = ofL (Lib.itoa x.pl.prio) := ⟨_, rfl⟩
  obtain ⟨V5, hV5⟩ : ∃ V, V = ofL (Lib.itoa x.pl.array) := ⟨_, rfl⟩
  obtain ⟨V6, hV6⟩ : ∃ V, V = ofL (Lib.itoa x.pl.retries) := ⟨_, rfl⟩
  have s1 : V1.size ≤ 20 := by rw [hV1, ofL_size]; omega
  have s2 : V2.size ≤ 83 := by rw [hV2, ofL_size]; omega
  have s3 : V3.size ≤ 20 := by rw [hV3, ofL_size]; omega
  have s4 : V4'.size ≤ 20 := by rw [hV4, ofL_size]; omega
  have s5 : V5.size ≤ 20 := by rw [hV5, ofL_size]; omega
  have s6 : V6.size ≤ 20 := by rw [hV6, ofL_size]; omega
  have k1 : ∀ W, Calls Tryd.prog 78 #[.int .i64 x.pl.nodes] W fun e w' => e = .returned (.string V1) ∧ w' = W := fun W => by rw [hV1]; exact digits_any _ (by omega) (by omega) W
  have k2 : ∀ W, Calls Tryd.prog 37 #[x.pl.dem.val] W fun e w' => e = .returned (.string V2) ∧ Below W.heap.size W w' := fun W => by rw [hV2]; exact rtext_any _ hv64 W
  have k3 : ∀ W, Calls Tryd.prog 78 #[.int .i64 x.pl.wall] W fun e w' => e = .returned (.string V3) ∧ w' = W := fun W => by rw [hV3]; exact digits_any _ (by omega) (by omega) W
  have k4 : ∀ W, Calls Tryd.prog 78 #[.int .i64 x.pl.prio] W fun e w' => e = .returned (.string V4') ∧ w' = W := fun W => by rw [hV4]; exact digits_any _ (by omega) (by omega) W
  have k5 : ∀ W, Calls Tryd.prog 78 #[.int .i64 x.pl.array] W fun e w' => e = .returned (.string V5) ∧ w' = W := fun W => by rw [hV5]; exact digits_any _ (by omega) (by omega) W
  have k6 : ∀ W, Calls Tryd.prog 78 #[.int .i64 x.pl.retries] W fun e w' => e = .returned (.string V6) ∧ w' = W := fun W => by rw [hV6]; exact digits_any _ (by omega) (by omega) W
  obtain ⟨p5, p6, p7, p8⟩ := parts_le hs
  have p9 := nine9_le hs
  obtain ⟨T5, hT5⟩ : ∃ T, T = ofL (five5 x.pl) := ⟨_, rfl⟩
  obtain ⟨T6, hT6⟩ : ∃ T, T = ofL (six6 x.pl) := ⟨_, rfl⟩
  obtain ⟨T7, hT7⟩ : ∃ T, T = ofL (seven7 x.pl) := ⟨_, rfl⟩
  obtain ⟨T8, hT8⟩ : ∃ T, T = ofL (eight8 x.pl) := ⟨_, rfl⟩
  obtain ⟨T9, hT9⟩ : ∃ T, T = ofL (nine9 x.pl) := ⟨_, rfl⟩
  have t5 : T5.size ≤ 1810 := by rw [hT5, ofL_size]; exact p5
  have t6 : T6.size ≤ 1810 := by rw [hT6, ofL_size]; exact p6
  have t7 : T7.size ≤ 1810 := by rw [hT7, ofL_size]; exact p7
  have t8 : T8.size ≤ 1810 := by rw [hT8, ofL_size]; exact p8
  have t9 : T9.size ≤ 1810 := by rw [hT9, ofL_size]; exact p9
  have hfive : ({ data := #[117, 115, 101, 114, 61] } : ByteArray) ++ x.pl.user ++ ({ data := #[32, 112, 97, 114, 116, 61] } : ByteArray) ++ x.pl.part ++ ({ data := #[32, 110, 111, 100, 101, 115, 61] } : ByteArray) ++ V1 ++ ({ data := #[32, 100, 101, 109, 97, 110, 100, 61] } : ByteArray) ++ V2 ++ ({ data := #[32, 119, 97, 108, 108, 61] } : ByteArray) ++ V3 = T5 := by
    rw [hV1, hV2, hV3, hT5]; exact five5_eq x.pl
  have hsix : x.pl.prio ≠ 0 → T5 ++ (({ data := #[32, 112, 114, 105, 111, 61] } : ByteArray) ++ V4') = T6 := fun h => by
    rw [hT6]; refine (piece_eq _ [32, 112, 114, 105, 111, 61] _ hT5 rfl hV4).trans ?_; unfold six6; rw [if_neg h]
  have hsix0 : x.pl.prio = 0 → T5 = T6 := fun h => by rw [hT5, hT6]; unfold six6; rw [if_pos h, List.append_nil]
  have hsev : x.pl.array ≠ 1 → T6 ++ (({ data := #[32, 97, 114, 114, 97, 121, 61] } : ByteArray) ++ V5) = T7 := fun h => by
    rw [hT7]; refine (piece_eq _ [32, 97, 114, 114, 97, 121, 61] _ hT6 rfl hV5).trans ?_; unfold seven7; rw [if_neg h]
  have hsev0 : x.pl.array = 1 → T6 = T7 := fun h => by rw [hT6, hT7]; unfold seven7; rw [if_pos h, List.append_nil]
  have heig : x.pl.retries ≠ 0 → T7 ++ (({ data := #[32, 114, 101, 116, 114, 105, 101, 115, 61] } : ByteArray) ++ V6) = T8 := fun h => by
    rw [hT8]; refine (piece_eq _ [32, 114, 101, 116, 114, 105, 101, 115, 61] _ hT7 rfl hV6).trans ?_; unfold eight8; rw [if_neg h]
  have heig0 : x.pl.retries = 0 → T7 = T8 := fun h => by rw [hT7, hT8]; unfold eight8; rw [if_pos h, List.append_nil]
  have hnin : x.pl.held = true → T8 ++ ({ data := #[32, 104, 101, 108, 100, 61, 49] } : ByteArray) = T9 := fun h => by
    rw [hT9]; refine (piece_eq2 _ [32, 104, 101, 108, 100, 61, 49] hT8 rfl).trans ?_; unfold nine9; rw [if_pos h]
  have hnin0 : x.pl.held = false → T8 = T9 := fun h => by rw [hT8, hT9]; unfold nine9; rw [if_neg (by rw [h]; decide), List.append_nil]
  have hend : ofL (ten10 x.pl x.pl.after.length) = ofL (textS x.pl) := by rw [ten10_all hs]
  have hstep : ∀ k y, x.pl.after[k]? = some y → ten10 x.pl (k + 1) = ten10 x.pl k ++ (if k = 0 then [32, 97, 102, 116, 101, 114, 61] else [44]) ++ Lib.itoa y := fun k y h => ten10_step h
  have hten0 : T9 = ofL (ten10 x.pl 0) := by rw [hT9]; unfold ten10; rw [if_pos rfl, List.append_nil]
  have hlt : ∀ k, k ≤ x.pl.after.length → (ofL (ten10 x.pl k)).size ≤ 1810 := fun k hk => by rw [ofL_size]; exact ten10_le hs k hk
  have haf := waits_all q4
  have haln := hx.after.len
  clear hV1 hV2 hV3 hV4 hV5 hV6 hT5 hT6 hT7 hT8 hT9 q1 q2 q3 q4 q5 q6 q7 q8 q9 qd hv64 a3 b5 b6 b7 b8 b9 d5 d6 d7 d8 d9 p5 p6 p7 p8 p9
  obtain ⟨⟨user, part, nodes, ⟨da, db, dc, dd⟩, wall, prio, array, retries, held, after⟩, so, n, cp⟩ := x
  simp only at a1 a2 hfive haf haln
  have g1 : ¬ 9223372036854775807 < 5 + user.size := by omega
  have g2 : ¬ 9223372036854775807 < 5 + user.size + 6 := by omega
  have g3 : ¬ 9223372036854775807 < 5 + user.size + 6 + part.size := by omega
  have g4 : ¬ 9223372036854775807 < 5 + user.size + 6 + part.size + 7 := by omega
  have g5 : ¬ 9223372036854775807 < 5 + user.size + 6 + part.size + 7 + V1.size := by omega
  have g6 : ¬ 9223372036854775807 < 5 + user.size + 6 + part.size + 7 + V1.size + 8 := by omega
  have g7 : ¬ 9223372036854775807 < 5 + user.size + 6 + part.size + 7 + V1.size + 8 + V2.size := by omega
  have g8 : ¬ 9223372036854775807 < 5 + user.size + 6 + part.size + 7 + V1.size + 8 + V2.size + 6 := by omega
  have g9 : ¬ 9223372036854775807 < 5 + user.size + 6 + part.size + 7 + V1.size + 8 + V2.size + 6 + V3.size := by omega
  replace k1 := Lib.hid k1; replace k2 := Lib.hid k2; replace k3 := Lib.hid k3; replace k4 := Lib.hid k4; replace k5 := Lib.hid k5; replace k6 := Lib.hid k6; replace hk := Lib.hid hk; replace hx := Lib.hid hx; replace hB0 := Lib.hid hB0; replace hfive := Lib.hid hfive; replace hsix := Lib.hid hsix; replace hsix0 := Lib.hid hsix0; replace hsev := Lib.hid hsev; replace hsev0 := Lib.hid hsev0; replace heig := Lib.hid heig; replace heig0 := Lib.hid heig0; replace hnin := Lib.hid hnin; replace hnin0 := Lib.hid hnin0; replace hend := Lib.hid hend; replace hstep := Lib.hid hstep; replace hten0 := Lib.hid hten0; replace hlt := Lib.hid hlt; replace haf := Lib.hid haf; replace haln := Lib.hid haln; replace hs := Lib.hid hs; replace a1 := Lib.hid a1; replace a2 := Lib.hid a2; replace s1 := Lib.hid s1; replace s2 := Lib.hid s2; replace s3 := Lib.hid s3; replace s4 := Lib.hid s4; replace s5 := Lib.hid s5; replace s6 := Lib.hid s6; replace t5 := Lib.hid t5; replace t6 := Lib.hid t6; replace t7 := Lib.hid t7; replace t8 := Lib.hid t8; replace t9 := Lib.hid t9
  go_enter Tryd.func28, Tryd.ntmps28
  go_wp2_with fail
  refine hk.out.mono ?_
  rintro e w1 ⟨rfl, hb⟩
  have hB1 := hB0.out.below hb
  have hcur := Below.refl w1.heap.size w1
  have hX := hB1.box
  replace hB1 := Lib.hid hB1; replace hb := Lib.hid hb; replace hcur := Lib.hid hcur; replace hX := Lib.hid hX
  have hS : ∀ W' : World, W'.heap[w.heap.size]? = some (.cells (⟨⟨user, part, nodes, ⟨da, db, dc, dd⟩, wall, prio, array, retries, held, after⟩, so, n, cp⟩ : Spv).cells 28 (0, 0)) → W'.cell? ⟨w.heap.size, 0, none⟩ = some (.string user) ∧ W'.cell? ⟨w.heap.size, 1, none⟩ = some (.string part) ∧ W'.cell? ⟨w.heap.size, 2, none⟩ = some (.int .i64 nodes) ∧ W'.cell? ⟨w.heap.size, 3, none⟩ = some (.int .i64 da) ∧ W'.cell? ⟨w.heap.size, 4, none⟩ = some (.int .i64 db) ∧ W'.cell? ⟨w.heap.size, 5, none⟩ = some (.int .i64 dc) ∧ W'.cell? ⟨w.heap.size, 6, none⟩ = some (.int .i64 dd) ∧ W'.cell? ⟨w.heap.size, 7, none⟩ = some (.int .i64 wall) := fun W' h =>
    ⟨blk_cell h 0, blk_cell h 1, blk_cell h 2, blk_cell h 3, blk_cell h 4, blk_cell h 5, blk_cell h 6, blk_cell h 7⟩
  obtain ⟨c0, c1, c2, c3, c4, c5, c6, c7⟩ := hS w1 hX.out
  replace hS := Lib.hid hS
  go_upto_region 4 with fail
  clear c0 c1 c2 c3 c4 c5 c6 c7
  go_cut [4] (fun tv wx => RtA w ⟨⟨user, part, nodes, ⟨da, db, dc, dd⟩, wall, prio, array, retries, held, after⟩, so, n, cp⟩ T5 tv wx)
  case first =>
    replace hcur := Lib.hid (hcur.out.drew)
    replace hX := Lib.hid (blk_drew hX.out)
    go_region_held3 (fun W' => W'.cell? ⟨w.heap.size, 0, none⟩ = some (.string user) ∧ W'.cell? ⟨w.heap.size, 1, none⟩ = some (.string part) ∧ W'.cell? ⟨w.heap.size, 2, none⟩ = some (.int .i64 nodes) ∧ W'.cell? ⟨w.heap.size, 3, none⟩ = some (.int .i64 da) ∧ W'.cell? ⟨w.heap.size, 4, none⟩ = some (.int .i64 db) ∧ W'.cell? ⟨w.heap.size, 5, none⟩ = some (.int .i64 dc) ∧ W'.cell? ⟨w.heap.size, 6, none⟩ = some (.int .i64 dd) ∧ W'.cell? ⟨w.heap.size, 7, none⟩ = some (.int .i64 wall))
      (first
        | with_reducible exact hS.out _ hX.out)
      (first
        | (go_at_call 78
           (with_reducible refine (k1.out _).mono ?_)
           rintro e wz ⟨rfl, rfl⟩)
        | (go_at_call 78
           (with_reducible refine (k3.out _).mono ?_)
           rintro e wz ⟨rfl, rfl⟩)
        | (go_at_call 37
           (with_reducible refine (k2.out _).mono ?_)
           rintro e wz ⟨rfl, hbz⟩
           replace hX := Lib.hid (blk_below hbz hX.out (blk_lt hX.out))
           replace hcur := Lib.hid (hcur.out.trans (hbz.mono hcur.out.size))
           replace hbz := Lib.hid hbz))
    all_goals
      go_wp2_with fail
      go_meet
      case rel => exact ⟨by rw [← hfive.out], hB1.out.low.trans (hcur.out.mono hB1.out.low.size), hX.out⟩
  case rest =>
  obtain ⟨rfl, hlow, hbox⟩ := hcut
  have c8 : wc.cell? ⟨w.heap.size, 8, none⟩ = some (.int .i64 prio) := blk_cell hbox 8
  have c9 : wc.cell? ⟨w.heap.size, 9, none⟩ = some (.int .i64 array) := blk_cell hbox 9
  have c10 : wc.cell? ⟨w.heap.size, 10, none⟩ = some (.int .i64 retries) := blk_cell hbox 10
  have c11 : wc.cell? ⟨w.heap.size, 11, none⟩ = some (.bool held) := blk_cell hbox 11
  have c12 : wc.cell? ⟨w.heap.size, 12, none⟩ = some (.slice so n cp) := blk_cell hbox 12
  obtain ⟨wq, hwq⟩ : ∃ W, W = wc := ⟨_, rfl⟩
  rw [← hwq] at c8 c9 c10 c11 c12 hlow hbox ⊢
  clear hwq
  replace hlow := Lib.hid hlow; replace hbox := Lib.hid hbox
  clear g1 g2 g3 g4 g5 g6 g7 g8 g9
  go_upto_if 34 with fail
  go_cut [4] (fun tv wx => Tst T6 wq tv wx)
  case first =>
    by_cases q : prio = 0
    · have d : (prio != 0) = false := by simp [q]
      have hz := hsix0.out q
      replace q := Lib.hid q; replace hz := Lib.hid hz
      go_wp2
      go_meet
      case rel => exact ⟨by rw [hz.out], rfl⟩
    · have d : (prio != 0) = true := by simp [q]
      have d2 : (prio == 0) = false := by simp [q]
      have hz := hsix.out q
      have u1 : ¬ 9223372036854775807 < 6 + V4'.size := by have := s4.out; omega
      have u2 : ¬ 9223372036854775807 < T5.size + (6 + V4'.size) := by have := s4.out; have := t5.out; omega
      replace q := Lib.hid q; replace hz := Lib.hid hz
      go_wp2_with fail
      refine (k4.out _).mono ?_
      rintro e w5 ⟨rfl, rfl⟩
      go_wp2
      go_meet
      case rel => exact ⟨by rw [← hz.out], rfl⟩
  case rest =>
  obtain ⟨rfl, rfl⟩ := hcut
  go_upto_if 43 with fail
  go_cut [4] (fun tv wx => Tst T7 wq tv wx)
  case first =>
    by_cases q : array = 1
    · have d : (array != 1) = false := by simp [q]
      have hz := hsev0.out q
      replace q := Lib.hid q; replace hz := Lib.hid hz
      go_wp2
      go_meet
      case rel => exact ⟨by rw [hz.out], rfl⟩
    · have d : (array != 1) = true := by simp [q]
      have d2 : (array == 1) = false := by simp [q]
      have hz := hsev.out q
      have u1 : ¬ 9223372036854775807 < 7 + V5.size := by have := s5.out; omega
      have u2 : ¬ 9223372036854775807 < T6.size + (7 + V5.size) := by have := s5.out; have := t6.out; omega
      replace q := Lib.hid q; replace hz := Lib.hid hz
      go_wp2_with fail
      refine (k5.out _).mono ?_
      rintro e w5 ⟨rfl, rfl⟩
      go_wp2
      go_meet
      case rel => exact ⟨by rw [← hz.out], rfl⟩
  case rest =>
  obtain ⟨rfl, rfl⟩ := hcut
  go_upto_if 52 with fail
  go_cut [4] (fun tv wx => Tst T8 wq tv wx)
  case first =>
    by_cases q : retries = 0
    · have d : (retries != 0) = false := by simp [q]
      have hz := heig0.out q
      replace q := Lib.hid q; replace hz := Lib.hid hz
      go_wp2
      go_meet
      case rel => exact ⟨by rw [hz.out], rfl⟩
    · have d : (retries != 0) = true := by simp [q]
      have d2 : (retries == 0) = false := by simp [q]
      have hz := heig.out q
      have u1 : ¬ 9223372036854775807 < 9 + V6.size := by have := s6.out; omega
      have u2 : ¬ 9223372036854775807 < T7.size + (9 + V6.size) := by have := s6.out; have := t7.out; omega
      replace q := Lib.hid q; replace hz := Lib.hid hz
      go_wp2_with fail
      refine (k6.out _).mono ?_
      rintro e w5 ⟨rfl, rfl⟩
      go_wp2
      go_meet
      case rel => exact ⟨by rw [← hz.out], rfl⟩
  case rest =>
  obtain ⟨rfl, rfl⟩ := hcut
  go_upto_if 60 with fail
  go_cut [4] (fun tv wx => Tst T9 wq tv wx)
  case first =>
    cases held with
    | false =>
      have hz := hnin0.out rfl
      replace hz := Lib.hid hz
      go_wp2
      go_meet
      case rel => exact ⟨by rw [hz.out], rfl⟩
    | true =>
      have hz := hnin.out rfl
      have u1 : ¬ 9223372036854775807 < T8.size + 7 := by have := t8.out; omega
      replace hz := Lib.hid hz
      go_wp2
      go_meet
      case rel => exact ⟨by rw [← hz.out], rfl⟩
  case rest =>
  obtain ⟨rfl, rfl⟩ := hcut
  clear c8 c9 c10 c11
  have hrow := (hx.out.low hlow.out).after
  have hnn : n ≤ cp := hx.out.ple
  have hnmax := hrow.max
  have hlen := hrow.len
  replace hrow := Lib.hid hrow
  go_wp2
  go_loopw [4, 5] (fun tv i wr => ∃ k : Nat, i = .int .i64 k ∧ k ≤ n ∧ Hid (tv = .string (ofL (ten10 ⟨user, part, nodes, ⟨da, db, dc, dd⟩, wall, prio, array, retries, held, after⟩ k))) ∧ wr = wq) (fun _ i _ => n - (intOf i).toNat)
  case atStart => exact ⟨0, rfl, Nat.zero_le _, by rw [← hten0.out]; rfl, rfl⟩
  case round =>
    obtain ⟨k, rfl, hk, ht, rfl⟩ := hrel
    obtain ⟨T, hT⟩ : ∃ T, T = ofL (ten10 ⟨user, part, nodes, ⟨da, db, dc, dd⟩, wall, prio, array, retries, held, after⟩ k) := ⟨_, rfl⟩
    have hTl : T.size ≤ 1810 := by rw [hT]; exact hlt.out k (by show k ≤ after.length; rw [hlen]; exact hk)
    have ht' := ht.out
    rw [← hT] at ht'
    subst ht'
    by_cases hc : k < n
    · have hc1 : (k : Int) < n := by omega
      have hk0 : (0 : Int) ≤ (k : Int) := by omega
      obtain ⟨y, hy⟩ := hrow.out.get hc
      obtain ⟨b, off, rfl, hb, a0⟩ := hrow.out.cell k y hy
      have hbd := okw_bd (haf.out y (List.mem_of_getElem? hy))
      have hcd := fun W => digits_any y (by omega) (by omega) W
      obtain ⟨D, hD⟩ : ∃ D, D = ofL (Lib.itoa y) := ⟨_, rfl⟩
      rw [← hD] at hcd
      have hDl : D.size ≤ 20 := by rw [hD, ofL_size]; exact itoa_bd (by omega) (by omega)
      have hst := hstep.out k y hy
      by_cases hz : k = 0
      · subst hz
        simp only [Nat.add_zero] at a0
        have u1 : ¬ 9223372036854775807 < T.size + 7 := by omega
        have u2 : ¬ 9223372036854775807 < T.size + 7 + D.size := by omega
        have hc0 : 0 < n := hc
        have hT1 : T ++ ({ data := #[32, 97, 102, 116, 101, 114, 61] } : ByteArray) ++ D = ofL (ten10 ⟨user, part, nodes, ⟨da, db, dc, dd⟩, wall, prio, array, retries, held, after⟩ 1) := by
          rw [show (1 : Nat) = 0 + 1 from rfl, hst, hT, hD, if_pos rfl, ← ofL_app, ← ofL_app]; rfl
        replace ht := Lib.hid ht; replace hT := Lib.hid hT; replace hTl := Lib.hid hTl; replace hy := Lib.hid hy; replace hbd := Lib.hid hbd; replace hcd := Lib.hid hcd; replace hD := Lib.hid hD; replace hDl := Lib.hid hDl; replace hst := Lib.hid hst; replace hT1 := Lib.hid hT1
        go_wp2_with fail
        refine (hcd.out _).mono ?_
        rintro e w5 ⟨rfl, rfl⟩
        go_wp2
        go_roundw
        case rel => exact ⟨1, by go_num, by omega, by rw [hT1.out]; rfl, trivial⟩
        case measure => simp [intOf]; omega
      · have d : ((k : Int) == 0) = false := by simp; omega
        have d' : decide (k = 0) = false := by simp [hz]
        have u1 : ¬ 9223372036854775807 < T.size + 1 := by omega
        have u2 : ¬ 9223372036854775807 < T.size + 1 + D.size := by omega
        have hT1 : T ++ ({ data := #[44] } : ByteArray) ++ D = ofL (ten10 ⟨user, part, nodes, ⟨da, db, dc, dd⟩, wall, prio, array, retries, held, after⟩ (k + 1)) := by
          rw [hst, hT, hD, if_neg hz, ← ofL_app, ← ofL_app]; rfl
        replace ht := Lib.hid ht; replace hT := Lib.hid hT; replace hTl := Lib.hid hTl; replace hy := Lib.hid hy; replace hbd := Lib.hid hbd; replace hcd := Lib.hid hcd; replace hD := Lib.hid hD; replace hDl := Lib.hid hDl; replace hst := Lib.hid hst; replace hT1 := Lib.hid hT1; replace hz := Lib.hid hz
        go_wp2_with fail
        refine (hcd.out _).mono ?_
        rintro e w5 ⟨rfl, rfl⟩
        go_wp2
        go_roundw
        case rel => exact ⟨k + 1, by go_num, by omega, by rw [hT1.out]; rfl, trivial⟩
        case measure => simp [intOf]; omega
    · have hc1 : ¬ (k : Int) < n := by omega
      have hkn : k = n := by omega
      subst hkn
      have hTt : T = ofL (textS ⟨user, part, nodes, ⟨da, db, dc, dd⟩, wall, prio, array, retries, held, after⟩) := by
        rw [hT, ← hend.out]; show ofL (ten10 _ k) = ofL (ten10 _ after.length); rw [hlen]
      replace ht := Lib.hid ht; replace hT := Lib.hid hT; replace hTl := Lib.hid hTl; replace hTt := Lib.hid hTt
      go_wp2
      go_ret
      exact ⟨by rw [hTt.out]; rfl, hlow.out⟩
end Go.Proofs.YteoihdkaoipocaaDoor

/- corveeref08.row: the numbers of a text, as the document tells them. -/
namespace Go.Proofs.YteoihdkaoipocaaDoor
open Go.RowKit Go.Maps Go.Shelf Go.Sort

def RowPost (v : ByteArray) (w : World) (e : Ending) (w' : World) : Prop :=
  Below w.heap.size w w' ∧ ∃ so n c l b, e = .returned (.tuple #[.slice so n c, .bool b]) ∧ n ≤ c ∧ IntsAt w' so n l ∧ (∀ b o, so = some ⟨b, o, none⟩ → w.heap.size ≤ b ∧ b < w'.heap.size) ∧ rowN v = if b = true then some l else none
theorem rowN_none {v : ByteArray} (h : manyN (cutAll 44 v.data.toList) = none) : rowN v = none := by unfold rowN; rw [h]
theorem rowN_yes {v : ByteArray} {l : List Int} {b : Bool} (h : manyN (cutAll 44 v.data.toList) = some l) (hb : b = waitsL l) : rowN v = if b = true then some l else none := by unfold rowN; rw [h, hb]
set_option maxRecDepth 100000 in
set_option maxHeartbeats 3200000 in
theorem rrow_any (s : ByteArray) (w : World) (hs : s.size ≤ 4294967200) : Calls Tryd.prog 112 #[.string s] w (RowPost s w) := by
  obtain ⟨i3, hi3, hz3, hz31, hz32⟩ := info_parts info3
  have hsp := rcut_any s 44 w (by omega)
  obtain ⟨ps, hpse⟩ : ∃ ps, ps = cutAll 44 s.data.toList := ⟨_, rfl⟩
  obtain ⟨L, hps⟩ : ∃ L, L = ps.length := ⟨_, rfl⟩
  have hLm : L ≤ s.size + 1 := by rw [hps, hpse]; exact cutAll_many _
  have hle : ∀ p, p ∈ ps → p.length ≤ s.size := fun p hp => by rw [hpse] at hp; exact cutAll_le hp
  have hL0 : 0 < L := by rw [hps, hpse]; exact cutAll_pos _ _
  rw [← hpse] at hsp
  have hm9 : maxLen = 9223372036854775807 := rfl
  replace hsp := Lib.hid hsp; replace hpse := Lib.hid hpse; replace hps := Lib.hid hps; replace hle := Lib.hid hle; replace hi3 := Lib.hid hi3; replace hz3 := Lib.hid hz3; replace hz31 := Lib.hid hz31; replace hz32 := Lib.hid hz32; replace hm9 := Lib.hid hm9
  go_enter Tryd.func112, Tryd.ntmps112
  go_wp2_with fail
  refine hsp.out.mono ?_
  rintro e w1 ⟨so, n, c, rfl, hnc, hrow, hz9, hb1⟩
  have hnL : n = L := by rw [← hrow.len, List.length_map, hps.out]
  subst hnL
  replace hb1 := Lib.hid hb1; replace hrow := Lib.hid hrow; replace hnc := Lib.hid hnc; replace hz9 := Lib.hid hz9
  go_wp2
  go_loopw [4, 6, 7, 8, 9] (fun ov i _ _ _ wr => ∃ (k : Nat) (rest : List (List UInt8)) (done : List Int), i = .int .i64 k ∧ k ≤ n ∧ Hid (rest = ps.drop k) ∧ Hid (NmW w1 ps rest done ov wr)) (fun _ i _ _ _ _ => n - (intOf i).toNat)
  case atStart => exact ⟨0, ps, [], rfl, Nat.zero_le _, rfl, NmW.start (Below.refl _ _)⟩
  case round =>
    obtain ⟨k, rest, done, rfl, hk, hrest, hM⟩ := hrel
    by_cases hc : k < n
    · have hc1 : (k : Int) < n := by omega
      have hk0 : (0 : Int) ≤ (k : Int) := by omega
      have hkl : k < ps.length := by rw [← hps.out]; exact hc
      obtain ⟨p, hp⟩ : ∃ p, ps[k]? = some p := ⟨_, List.getElem?_eq_getElem hkl⟩
      have hdr : rest = p :: ps.drop (k + 1) := by
        rw [hrest.out, List.drop_eq_getElem_cons hkl]
        rw [List.getElem?_eq_getElem hkl] at hp
        rw [Option.some.inj hp]
      have hM2 := hM.out
      rw [hdr] at hM2
      have hr := hrow.out.low hM2.low
      obtain ⟨b', off', rfl, _, c0⟩ := hr.cell k (ofL p) (by rw [List.getElem?_map, hp]; rfl)
      have hoz := (hz9.out _ _ rfl).1
      subst hoz
      simp only [Nat.zero_add] at c0
      have hpl := hle.out p (List.mem_of_getElem? hp)
      have hpz : (ofL p).size = p.length := ofL_size p
      have ht := hm9.out
      obtain ⟨S, hS⟩ : ∃ S, S = ofL p := ⟨_, rfl⟩
      rw [← hS] at c0 hpz
      by_cases hp0 : p = []
      · obtain ⟨m, hmm⟩ : ∃ m, m = decide (p.head? = some 45) := ⟨_, rfl⟩
        have hm0 : m = false := by rw [hmm, hp0]; rfl
        subst hm0
        obtain ⟨q, hq⟩ : ∃ q, q = if false = true then p.tail else p := ⟨_, rfl⟩
        have hqp : q = p := hq
        have hql : (ofL q).size ≤ maxLen := by rw [ofL_size, hqp]; omega
        have hcn := rnum_any (ofL q) 13 wr hql (by decide)
        obtain ⟨N, hN⟩ : ∃ N, N = numOf (ofL q) 13 := ⟨_, rfl⟩
        have hNb := numOf_13 (ofL q)
        rw [← hN] at hNb hcn
        obtain ⟨hN1, hN2⟩ := hNb
        have hon := oneN_eq hmm hq hN
        rw [hqp, ← hS] at hcn
        have z0 : S.size = 0 := by rw [hpz, hp0]; rfl
        have d0 : decide ((0 : Int) < S.size) = false := decide_eq_false (by omega)
        have d0' : decide (0 < S.size) = false := decide_eq_false (by omega)
        replace hp := Lib.hid hp; replace hdr := Lib.hid hdr; replace hM2 := Lib.hid hM2; replace hr := Lib.hid hr; replace hmm := Lib.hid hmm; replace hq := Lib.hid hq; replace hqp := Lib.hid hqp; replace hql := Lib.hid hql; replace hcn := Lib.hid hcn; replace hN := Lib.hid hN; replace hon := Lib.hid hon; replace hkl := Lib.hid hkl; replace hpl := Lib.hid hpl; replace hpz := Lib.hid hpz; replace ht := Lib.hid ht; replace hS := Lib.hid hS; replace hp0 := Lib.hid hp0; replace z0 := Lib.hid z0
        have hcn2 := hcn.out
        go_wp2_with fail
        refine hcn2.mono ?_
        rintro e w3 ⟨rfl, hb3⟩
        clear hcn2
        have hM3 := hM2.out.on hb3
        clear c0
        replace hb3 := Lib.hid hb3; replace hM3 := Lib.hid hM3
        by_cases hneg : N < 0
        · have d : decide (N < 0) = true := decide_eq_true hneg
          have hno : manyN ps = none := hM3.out.none (by rw [hon.out, if_pos hneg])
          have hlow3 := hb1.out.trans (hM3.out.low.mono hb1.out.size)
          replace hno := Lib.hid hno; replace hlow3 := Lib.hid hlow3; replace hneg := Lib.hid hneg
          go_wp2
          go_ret2
          exact ⟨hlow3.out, none, 0, 0, [], false, rfl, Nat.le_refl _, ints_none _, nofun, by rw [rowN_none (by rw [← hpse.out]; exact hno.out)]; rfl⟩
        have d : decide (N < 0) = false := decide_eq_false hneg
        have hone : oneN p = some (N) := by rw [hon.out, if_neg hneg]; rfl
        replace hone := Lib.hid hone; replace hneg := Lib.hid hneg
        obtain ⟨Ld, hLd⟩ : ∃ Ld, Ld = done.length := ⟨_, rfl⟩
        have hLk : Ld ≤ n := by rw [hLd]; have := (hM3).out.few; have := hps.out; omega
        have hownA : (w3.alloc (.cells #[.int .i64 (N)] 3 (0, 0))).ownsRow w1.heap.size 3 1 u4 Ld (intsV done) := by rw [hLd]; exact (hM3).out.own.row.alloc (.cells #[.int .i64 (N)] 3 (0, 0))
        have hnews := int_new w3 (N)
        have hone1 : ∀ u ∈ ([.int .i64 (N)] : List Value), u.oneCell' = true := by simp [Value.oneCell']
        have h63 := maxLen_ge (n := Ld) (by omega)
        have hby : (Ld + 1) * 8 ≤ 140737488355328 := by omega
        have hbas : w1.heap.size ≤ (w3.alloc (.cells #[.int .i64 (N)] 3 (0, 0))).heap.size := by have := (hM3).out.low.size; simp; omega
        replace hLd := Lib.hid hLd; replace hownA := Lib.hid hownA; replace hnews := Lib.hid hnews; replace hone1 := Lib.hid hone1; replace h63 := Lib.hid h63; replace hby := Lib.hid hby; replace hbas := Lib.hid hbas
        go_wp2_with (at_builtin; refine wpList_append_own _ rfl _ _ 26 rfl w1.heap.size 3 i3 _ 1 8 Tryd.underlying26 hi3.out hz3.out hz31.out hz32.out rfl (by decide) _ Ld _ rfl hownA.out ⟨(w3).heap.size, 0, none⟩ 1 1 [.int .i64 (N)] rfl rfl hnews.out hone1.out h63.out hby.out hbas.out ?_; intro v1 w7 hown7 hgrow _; obtain ⟨g7, cap1, rfl⟩ := Joins.ownsRow_form hown7 (by omega); replace hown7 := Lib.hid hown7; replace hgrow := Lib.hid hgrow)
        have hO7 : OwnI w7 w1.heap.size (.slice (some ⟨g7, 0, none⟩) (Ld + 1) cap1) (done ++ [N]) := by
          refine ⟨?_⟩
          rw [List.length_append, ← hLd.out]
          simpa [intsV] using hown7.out
        have hB7 : Below w1.heap.size w1 w7 := ((hM3).out.low.alloc (hM3).out.low.size _).grown hgrow.out hbas.out (fun k hk => ((hM3).out.own.row.lt k hk).1)
        have hM7 := (hM3).out.step hone.out hO7 hB7
        replace hO7 := Lib.hid hO7; replace hB7 := Lib.hid hB7; replace hM7 := Lib.hid hM7
        go_wp2
        go_roundw
        case rel => exact ⟨k + 1, ps.drop (k + 1), done ++ [N], by go_num, by omega, rfl, hM7.out⟩
        case measure => simp [intOf]; omega
      obtain ⟨c1, r, hcr⟩ : ∃ c1 r, p = c1 :: r := by
        cases p with
        | nil => exact absurd rfl hp0
        | cons a b => exact ⟨a, b, rfl⟩
      have hpos : 0 < S.size := by rw [hpz, hcr]; simp
      have d0 : decide ((0 : Int) < S.size) = true := decide_eq_true (by omega)
      have d0' : decide (0 < S.size) = true := decide_eq_true hpos
      have hix : ∀ w, (Instr.index 9 (.string S) (.int .i64 0)).run Tryd.prog w = .ok (.int .u8 (chz S 0)) w := fun w => index_at Tryd.underlying9 S 0 0 rfl hpos w
      obtain ⟨cz, hcz⟩ : ∃ cz, cz = chz S 0 := ⟨_, rfl⟩
      have hczv : chz S 0 = (c1.toNat : Int) := by rw [hS, hcr]; rfl
      rw [← hcz] at hix
      by_cases h45 : c1 = 45
      · have d1 : (cz == 45) = true := by rw [hcz, hczv, h45]; rfl
        obtain ⟨m, hmm⟩ : ∃ m, m = decide (p.head? = some 45) := ⟨_, rfl⟩
        have hm0 : m = true := by rw [hmm, hcr, h45]; rfl
        subst hm0
        obtain ⟨q, hq⟩ : ∃ q, q = if true = true then p.tail else p := ⟨_, rfl⟩
        have hqp : q = p.tail := hq
        have hql : (ofL q).size ≤ maxLen := by rw [ofL_size, hqp, List.length_tail]; omega
        have hcn := rnum_any (ofL q) 13 wr hql (by decide)
        obtain ⟨N, hN⟩ : ∃ N, N = numOf (ofL q) 13 := ⟨_, rfl⟩
        have hNb := numOf_13 (ofL q)
        rw [← hN] at hNb hcn
        obtain ⟨hN1, hN2⟩ := hNb
        have hon := oneN_eq hmm hq hN
        have hse : ∀ w, (Instr.slice 9 (.string S) (some (.int .i64 1)) none none).run Tryd.prog w = .ok (.string (ofL q)) w := fun w => by
          rw [run_slice_string_from_if w 9 S .i64 1 Tryd.underlying9, if_pos ⟨by omega, by omega⟩]
          congr 2
          exact toL_inj (by rw [ofL_toL, Lib.extract_to_end, hS, ofL_toL, hqp]; simp)
        replace hp := Lib.hid hp; replace hdr := Lib.hid hdr; replace hM2 := Lib.hid hM2; replace hr := Lib.hid hr; replace hmm := Lib.hid hmm; replace hq := Lib.hid hq; replace hqp := Lib.hid hqp; replace hql := Lib.hid hql; replace hcn := Lib.hid hcn; replace hN := Lib.hid hN; replace hon := Lib.hid hon; replace hkl := Lib.hid hkl; replace hpl := Lib.hid hpl; replace hpz := Lib.hid hpz; replace ht := Lib.hid ht; replace hS := Lib.hid hS; replace hp0 := Lib.hid hp0; replace hcr := Lib.hid hcr; replace hcz := Lib.hid hcz; replace hczv := Lib.hid hczv; replace h45 := Lib.hid h45
        have hcn2 := hcn.out
        go_wp2_with fail
        refine hcn2.mono ?_
        rintro e w3 ⟨rfl, hb3⟩
        clear hcn2
        have hM3 := hM2.out.on hb3
        clear c0
        replace hb3 := Lib.hid hb3; replace hM3 := Lib.hid hM3
        by_cases hneg : N < 0
        · have d : decide (N < 0) = true := decide_eq_true hneg
          have hno : manyN ps = none := hM3.out.none (by rw [hon.out, if_pos hneg])
          have hlow3 := hb1.out.trans (hM3.out.low.mono hb1.out.size)
          replace hno := Lib.hid hno; replace hlow3 := Lib.hid hlow3; replace hneg := Lib.hid hneg
          go_wp2
          go_ret2
          exact ⟨hlow3.out, none, 0, 0, [], false, rfl, Nat.le_refl _, ints_none _, nofun, by rw [rowN_none (by rw [← hpse.out]; exact hno.out)]; rfl⟩
        have d : decide (N < 0) = false := decide_eq_false hneg
        have hone : oneN p = some (-N) := by rw [hon.out, if_neg hneg]; rfl
        replace hone := Lib.hid hone; replace hneg := Lib.hid hneg
        obtain ⟨Ld, hLd⟩ : ∃ Ld, Ld = done.length := ⟨_, rfl⟩
        have hLk : Ld ≤ n := by rw [hLd]; have := (hM3).out.few; have := hps.out; omega
        have hownA : (w3.alloc (.cells #[.int .i64 (-N)] 3 (0, 0))).ownsRow w1.heap.size 3 1 u4 Ld (intsV done) := by rw [hLd]; exact (hM3).out.own.row.alloc (.cells #[.int .i64 (-N)] 3 (0, 0))
        have hnews := int_new w3 (-N)
        have hone1 : ∀ u ∈ ([.int .i64 (-N)] : List Value), u.oneCell' = true := by simp [Value.oneCell']
        have h63 := maxLen_ge (n := Ld) (by omega)
        have hby : (Ld + 1) * 8 ≤ 140737488355328 := by omega
        have hbas : w1.heap.size ≤ (w3.alloc (.cells #[.int .i64 (-N)] 3 (0, 0))).heap.size := by have := (hM3).out.low.size; simp; omega
        replace hLd := Lib.hid hLd; replace hownA := Lib.hid hownA; replace hnews := Lib.hid hnews; replace hone1 := Lib.hid hone1; replace h63 := Lib.hid h63; replace hby := Lib.hid hby; replace hbas := Lib.hid hbas
        go_wp2_with (at_builtin; refine wpList_append_own _ rfl _ _ 26 rfl w1.heap.size 3 i3 _ 1 8 Tryd.underlying26 hi3.out hz3.out hz31.out hz32.out rfl (by decide) _ Ld _ rfl hownA.out ⟨(w3).heap.size, 0, none⟩ 1 1 [.int .i64 (-N)] rfl rfl hnews.out hone1.out h63.out hby.out hbas.out ?_; intro v1 w7 hown7 hgrow _; obtain ⟨g7, cap1, rfl⟩ := Joins.ownsRow_form hown7 (by omega); replace hown7 := Lib.hid hown7; replace hgrow := Lib.hid hgrow)
        have hO7 : OwnI w7 w1.heap.size (.slice (some ⟨g7, 0, none⟩) (Ld + 1) cap1) (done ++ [-N]) := by
          refine ⟨?_⟩
          rw [List.length_append, ← hLd.out]
          simpa [intsV] using hown7.out
        have hB7 : Below w1.heap.size w1 w7 := ((hM3).out.low.alloc (hM3).out.low.size _).grown hgrow.out hbas.out (fun k hk => ((hM3).out.own.row.lt k hk).1)
        have hM7 := (hM3).out.step hone.out hO7 hB7
        replace hO7 := Lib.hid hO7; replace hB7 := Lib.hid hB7; replace hM7 := Lib.hid hM7
        go_wp2
        go_roundw
        case rel => exact ⟨k + 1, ps.drop (k + 1), done ++ [-N], by go_num, by omega, rfl, hM7.out⟩
        case measure => simp [intOf]; omega
      · have d1 : (cz == 45) = false := by
          rw [hcz, hczv]
          simp only [beq_eq_false_iff_ne]
          intro e
          exact h45 (UInt8.toNat_inj.1 (by have : (45 : UInt8).toNat = 45 := rfl; omega))
        obtain ⟨m, hmm⟩ : ∃ m, m = decide (p.head? = some 45) := ⟨_, rfl⟩
        have hm0 : m = false := by rw [hmm, hcr]; simp [h45]
        subst hm0
        obtain ⟨q, hq⟩ : ∃ q, q = if false = true then p.tail else p := ⟨_, rfl⟩
        have hqp : q = p := hq
        have hql : (ofL q).size ≤ maxLen := by rw [ofL_size, hqp]; omega
        have hcn := rnum_any (ofL q) 13 wr hql (by decide)
        obtain ⟨N, hN⟩ : ∃ N, N = numOf (ofL q) 13 := ⟨_, rfl⟩
        have hNb := numOf_13 (ofL q)
        rw [← hN] at hNb hcn
        obtain ⟨hN1, hN2⟩ := hNb
        have hon := oneN_eq hmm hq hN
        rw [hqp, ← hS] at hcn
        replace hp := Lib.hid hp; replace hdr := Lib.hid hdr; replace hM2 := Lib.hid hM2; replace hr := Lib.hid hr; replace hmm := Lib.hid hmm; replace hq := Lib.hid hq; replace hqp := Lib.hid hqp; replace hql := Lib.hid hql; replace hcn := Lib.hid hcn; replace hN := Lib.hid hN; replace hon := Lib.hid hon; replace hkl := Lib.hid hkl; replace hpl := Lib.hid hpl; replace hpz := Lib.hid hpz; replace ht := Lib.hid ht; replace hS := Lib.hid hS; replace hp0 := Lib.hid hp0; replace hcr := Lib.hid hcr; replace hcz := Lib.hid hcz; replace hczv := Lib.hid hczv; replace h45 := Lib.hid h45
        have hcn2 := hcn.out
        go_wp2_with fail
        refine hcn2.mono ?_
        rintro e w3 ⟨rfl, hb3⟩
        clear hcn2
        have hM3 := hM2.out.on hb3
        clear c0
        replace hb3 := Lib.hid hb3; replace hM3 := Lib.hid hM3
        by_cases hneg : N < 0
        · have d : decide (N < 0) = true := decide_eq_true hneg
          have hno : manyN ps = none := hM3.out.none (by rw [hon.out, if_pos hneg])
          have hlow3 := hb1.out.trans (hM3.out.low.mono hb1.out.size)
          replace hno := Lib.hid hno; replace hlow3 := Lib.hid hlow3; replace hneg := Lib.hid hneg
          go_wp2
          go_ret2
          exact ⟨hlow3.out, none, 0, 0, [], false, rfl, Nat.le_refl _, ints_none _, nofun, by rw [rowN_none (by rw [← hpse.out]; exact hno.out)]; rfl⟩
        have d : decide (N < 0) = false := decide_eq_false hneg
        have hone : oneN p = some (N) := by rw [hon.out, if_neg hneg]; rfl
        replace hone := Lib.hid hone; replace hneg := Lib.hid hneg
        obtain ⟨Ld, hLd⟩ : ∃ Ld, Ld = done.length := ⟨_, rfl⟩
        have hLk : Ld ≤ n := by rw [hLd]; have := (hM3).out.few; have := hps.out; omega
        have hownA : (w3.alloc (.cells #[.int .i64 (N)] 3 (0, 0))).ownsRow w1.heap.size 3 1 u4 Ld (intsV done) := by rw [hLd]; exact (hM3).out.own.row.alloc (.cells #[.int .i64 (N)] 3 (0, 0))
        have hnews := int_new w3 (N)
        have hone1 : ∀ u ∈ ([.int .i64 (N)] : List Value), u.oneCell' = true := by simp [Value.oneCell']
        have h63 := maxLen_ge (n := Ld) (by omega)
        have hby : (Ld + 1) * 8 ≤ 140737488355328 := by omega
        have hbas : w1.heap.size ≤ (w3.alloc (.cells #[.int .i64 (N)] 3 (0, 0))).heap.size := by have := (hM3).out.low.size; simp; omega
        replace hLd := Lib.hid hLd; replace hownA := Lib.hid hownA; replace hnews := Lib.hid hnews; replace hone1 := Lib.hid hone1; replace h63 := Lib.hid h63; replace hby := Lib.hid hby; replace hbas := Lib.hid hbas
        go_wp2_with (at_builtin; refine wpList_append_own _ rfl _ _ 26 rfl w1.heap.size 3 i3 _ 1 8 Tryd.underlying26 hi3.out hz3.out hz31.out hz32.out rfl (by decide) _ Ld _ rfl hownA.out ⟨(w3).heap.size, 0, none⟩ 1 1 [.int .i64 (N)] rfl rfl hnews.out hone1.out h63.out hby.out hbas.out ?_; intro v1 w7 hown7 hgrow _; obtain ⟨g7, cap1, rfl⟩ := Joins.ownsRow_form hown7 (by omega); replace hown7 := Lib.hid hown7; replace hgrow := Lib.hid hgrow)
        have hO7 : OwnI w7 w1.heap.size (.slice (some ⟨g7, 0, none⟩) (Ld + 1) cap1) (done ++ [N]) := by
          refine ⟨?_⟩
          rw [List.length_append, ← hLd.out]
          simpa [intsV] using hown7.out
        have hB7 : Below w1.heap.size w1 w7 := ((hM3).out.low.alloc (hM3).out.low.size _).grown hgrow.out hbas.out (fun k hk => ((hM3).out.own.row.lt k hk).1)
        have hM7 := (hM3).out.step hone.out hO7 hB7
        replace hO7 := Lib.hid hO7; replace hB7 := Lib.hid hB7; replace hM7 := Lib.hid hM7
        go_wp2
        go_roundw
        case rel => exact ⟨k + 1, ps.drop (k + 1), done ++ [N], by go_num, by omega, rfl, hM7.out⟩
        case measure => simp [intOf]; omega
    · have hc1 : ¬ (k : Int) < n := by omega
      have hkL : k = n := by omega
      have hM2 := hM.out
      have hr0 : rest = [] := by rw [hrest.out, hkL, hps.out, List.drop_length]
      rw [hr0] at hM2
      have hall := hM2.all
      obtain ⟨so2, n2, c2, e, hnc2, hi, hfr⟩ := ownI_form hM2.own
      have hfr2 : ∀ b o, so2 = some ⟨b, o, none⟩ → w.heap.size ≤ b ∧ b < wr.heap.size := fun b o e => ⟨Nat.le_trans hb1.out.size (hfr b o e).1, (hfr b o e).2⟩
      clear hfr
      subst e
      have hca := after_any so2 n2 c2 done wr hi hnc2
      obtain ⟨b, hb⟩ : ∃ b, b = waitsL done := ⟨_, rfl⟩
      rw [← hb] at hca
      have hlow := hb1.out.trans (hM2.low.mono hb1.out.size)
      replace hM2 := Lib.hid hM2; replace hr0 := Lib.hid hr0; replace hall := Lib.hid hall; replace hlow := Lib.hid hlow; replace hi := Lib.hid hi; replace hkL := Lib.hid hkL; replace hnc2 := Lib.hid hnc2; replace hM := Lib.hid hM; replace hca := Lib.hid hca; replace hb := Lib.hid hb; replace hfr2 := Lib.hid hfr2
      go_wp2_with fail
      refine hca.out.mono ?_
      rintro e w5 ⟨rfl, hb5⟩
      replace hb5 := Lib.hid hb5
      go_wp2
      go_ret2
      exact ⟨hlow.out.trans (hb5.out.mono hlow.out.size), so2, n2, c2, done, b, rfl, hnc2.out, hi.out.low hb5.out, (fun b o e => ⟨(hfr2.out b o e).1, Nat.lt_of_lt_of_le (hfr2.out b o e).2 hb5.out.size⟩), rowN_yes (by rw [← hpse.out]; exact hall.out) hb.out⟩
end Go.Proofs.YteoihdkaoipocaaDoor

/- corveeref08.keys, key: a word's key. -/
namespace Go.Proofs.YteoihdkaoipocaaDoor
open Go.RowKit Go.Maps Go.Shelf Go.Sort

theorem keys_any (w : World) : Calls Tryd.prog 108 #[] w fun e w' => e = .returned (.slice (some ⟨w.heap.size, 0, none⟩) 10 10) ∧ w' = w.alloc (.cells (keysL.map Value.string).toArray 9 (0, 0)) := by
  go_enter Tryd.func108, Tryd.ntmps108
  go_wp2
  go_ret
  exact ⟨rfl, rfl⟩
/-- a word's key by its number, and its value -/
def KeyPost (s : ByteArray) (w : World) (e : Ending) (w' : World) : Prop :=
  Below w.heap.size w w' ∧ ((e = .returned (.tuple #[.int .i64 (-1), .string { data := #[] }]) ∧ (keyVal s = none ∨ ∃ k v, keyVal s = some (k, v) ∧ k ∉ keysL)) ∨
    ∃ (j : Nat) (k v : ByteArray), e = .returned (.tuple #[.int .i64 j, .string v]) ∧ keysL[j]? = some k ∧ keyVal s = some (k, v) ∧ v.size ≤ s.size)
theorem keyVal_at {s : ByteArray} {k : Nat} (hn : (61 : UInt8) ∉ s.data.toList.take k) (hk : s.data.toList[k]? = some 61) : keyVal s = some (ofL (s.data.toList.take k), ofL (s.data.toList.drop (k + 1))) := by
  have e : s.data.toList = s.data.toList.take k ++ 61 :: s.data.toList.drop (k + 1) := by
    have hl := (List.getElem?_eq_some_iff.1 hk).1
    conv => lhs; rw [← List.take_append_drop k s.data.toList]
    rw [List.drop_eq_getElem_cons hl, (List.getElem?_eq_some_iff.1 hk).2]
  unfold keyVal
  rw [show Lib.cut s.data.toList [61] = (s.data.toList.take k, s.data.toList.drop (k + 1), true) from by
    conv => lhs; rw [e]
    exact cut_hit hn]
  rfl
theorem keyVal_no {s : ByteArray} (hn : (61 : UInt8) ∉ s.data.toList) : keyVal s = none := by
  unfold keyVal
  rw [cut_no hn]
  rfl
set_option maxRecDepth 100000 in
set_option maxHeartbeats 1600000 in
theorem rkey_any (s : ByteArray) (w : World) (hs : s.size ≤ 4294967200) : Calls Tryd.prog 65 #[.string s] w (KeyPost s w) := by
  have hix : ∀ (k : Nat), k < s.size → ∀ w, (Instr.index 9 (.string s) (.int .i64 (k : Int))).run Tryd.prog w = .ok (.int .u8 (chz s k)) w := fun k hk w => index_at Tryd.underlying9 s k k rfl hk w
  have hsl : ∀ (k : Nat), k ≤ s.size → ∀ w, (Instr.slice 9 (.string s) none (some (.int .i64 (k : Int))) none).run Tryd.prog w = .ok (.string (ofL (s.data.toList.take k))) w := fun k h2 w => by
    rw [run_slice_string_to_if w 9 s .i64 k Tryd.underlying9, if_pos ⟨by omega, by omega⟩]
    congr 2
    exact toL_inj (by rw [ofL_toL]; exact Lib.extract_from_zero _ _)
  have hse : ∀ (f : Nat), f ≤ s.size → ∀ w, (Instr.slice 9 (.string s) (some (.int .i64 (f : Int))) none none).run Tryd.prog w = .ok (.string (ofL (s.data.toList.drop f))) w := fun f h1 w => by
    rw [run_slice_string_from_if w 9 s .i64 f Tryd.underlying9, if_pos ⟨by omega, by omega⟩]
    congr 2
    exact toL_inj (by rw [ofL_toL, Lib.extract_to_end]; rfl)
  replace hix := Lib.hid hix; replace hsl := Lib.hid hsl; replace hse := Lib.hid hse
  go_enter Tryd.func65, Tryd.ntmps65
  go_wp2
  go_loopw [4, 5, 6] (fun i _ _ wr => ∃ k : Nat, i = .int .i64 k ∧ k ≤ s.size ∧ Hid ((61 : UInt8) ∉ s.data.toList.take k) ∧ Hid (wr = w)) (fun i _ _ _ => s.size - (intOf i).toNat)
  case atStart => exact ⟨0, rfl, Nat.zero_le _, by simp [Hid], rfl⟩
  case round =>
    obtain ⟨k, rfl, hk, hno, hw⟩ := hrel
    have hw2 := hw.out.symm
    subst hw2
    by_cases hc : k < s.size
    · have hc1 : (k : Int) < s.size := by omega
      have hi1 := hix.out k hc
      have hq := chz_eq s k hc 61
      obtain ⟨c, hcv⟩ : ∃ c, c = chz s k := ⟨_, rfl⟩
      rw [← hcv] at hi1 hq
      by_cases he : s.data.toList[k]? = some 61
      · have d0 : (c == 61) = true := by rw [show (61 : Int) = (((61 : UInt8).toNat : Nat) : Int) from rfl, hq]; exact decide_eq_true he
        have d : (c != 61) = false := by simp only [bne, d0]; rfl
        have hkv := keyVal_at hno.out he
        have hsl1 := hsl.out k (by omega)
        have hse1 := hse.out (k + 1) (by omega)
        have hse2 : ∀ w, (Instr.slice 9 (.string s) (some (.int .i64 ((k : Int) + 1))) none none).run Tryd.prog w = .ok (.string (ofL (s.data.toList.drop (k + 1)))) w := hse1
        clear hse1
        obtain ⟨key, hkey⟩ : ∃ key, key = ofL (s.data.toList.take k) := ⟨_, rfl⟩
        obtain ⟨v, hv⟩ : ∃ v, v = ofL (s.data.toList.drop (k + 1)) := ⟨_, rfl⟩
        have hvz : v.size ≤ s.size := by rw [hv, ofL_size, List.length_drop, toL_len]; omega
        rw [← hkey] at hsl1 hkv
        rw [← hv] at hse2 hkv
        have hka := keys_any w
        replace hcv := Lib.hid hcv; replace hq := Lib.hid hq; replace he := Lib.hid he; replace hkv := Lib.hid hkv; replace hkey := Lib.hid hkey; replace hv := Lib.hid hv; replace hka := Lib.hid hka; replace hvz := Lib.hid hvz
        go_wp2_with fail
        refine hka.out.mono ?_
        rintro e w1 ⟨rfl, hw1⟩
        have hb1 : Below w.heap.size w w1 := by rw [hw1]; exact (Below.refl _ _).alloc (Nat.le_refl _) _
        have hrow : w1.heap[w.heap.size]? = some (.cells (keysL.map Value.string).toArray 9 (0, 0)) := by rw [hw1]; exact blk_new _ _
        replace hw1 := Lib.hid hw1; replace hb1 := Lib.hid hb1; replace hrow := Lib.hid hrow
        go_wp2
        go_loopw [6] (fun i wq => ∃ j : Nat, i = .int .i64 j ∧ j ≤ 10 ∧ Hid (∀ m, m < j → keysL[m]? ≠ some key) ∧ Hid (Below w1.heap.size w1 wq)) (fun i _ => 10 - (intOf i).toNat)
        case atStart => exact ⟨0, rfl, Nat.zero_le _, (fun m h => absurd h (Nat.not_lt_zero _)), Below.refl _ _⟩
        case round =>
          obtain ⟨j, rfl, hj, hne, hB⟩ := hrel
          have hlow := hb1.out.trans (hB.out.mono hb1.out.size)
          by_cases hj1 : j < 10
          · have hj2 : (j : Int) < 10 := by omega
            have hj0 : (0 : Int) ≤ (j : Int) := by omega
            obtain ⟨kj, hkj⟩ : ∃ kj, keysL[j]? = some kj := ⟨_, List.getElem?_eq_getElem hj1⟩
            have hrow2 := blk_below hB.out hrow.out (blk_lt hrow.out)
            have c0 : w.heap.size < wr.heap.size := blk_lt hrow2
            have c1 : wr.cell? ⟨w.heap.size, j, none⟩ = some (.string kj) := by rw [blk_cell hrow2]; simp [hkj]
            by_cases q : kj = key
            · have d9 := str_eq q
              have hfin : keysL[j]? = some key := by rw [hkj, q]
              replace hkj := Lib.hid hkj; replace hrow2 := Lib.hid hrow2; replace q := Lib.hid q; replace hfin := Lib.hid hfin; replace hlow := Lib.hid hlow
              go_wp2
              go_quiet (fail)
              go_wp2
              go_quiet (fail)
              go_wp2
              go_ret2
              exact ⟨⟨hlow.out.os, hlow.out.tape, hlow.out.output, hlow.out.size, hlow.out.block⟩, .inr ⟨j, key, v, rfl, hfin.out, hkv.out, hvz.out⟩⟩
            · have d9 := str_ne q
              have hne2 : ∀ m, m < j + 1 → keysL[m]? ≠ some key := fun m hm e => by
                by_cases c : m = j
                · subst c; rw [hkj] at e; exact q (Option.some.inj e)
                · exact hne.out m (by omega) e
              replace hkj := Lib.hid hkj; replace hrow2 := Lib.hid hrow2; replace q := Lib.hid q; replace hne2 := Lib.hid hne2; replace hlow := Lib.hid hlow
              go_wp2
              go_quiet (fail)
              go_wp2
              go_roundw
              case rel => exact ⟨j + 1, by go_num, by omega, hne2.out, ⟨hB.out.os, hB.out.tape, hB.out.output, hB.out.size, hB.out.block⟩⟩
              case measure => simp [intOf]; omega
          · have hj2 : ¬ (j : Int) < 10 := by omega
            have hj10 : j = 10 := by omega
            have hnm : key ∉ keysL := fun h => by
              obtain ⟨m, hm, e⟩ := List.mem_iff_getElem.1 h
              have hm10 : m < 10 := hm
              exact hne.out m (by omega) (by rw [List.getElem?_eq_getElem hm, e])
            replace hnm := Lib.hid hnm; replace hlow := Lib.hid hlow
            go_wp2
            go_ret2
            exact ⟨hlow.out, .inl ⟨rfl, .inr ⟨key, v, hkv.out, hnm.out⟩⟩⟩
      · have d0 : (c == 61) = false := by rw [show (61 : Int) = (((61 : UInt8).toNat : Nat) : Int) from rfl, hq]; exact decide_eq_false he
        have d : (c != 61) = true := by simp only [bne, d0]; rfl
        have hno2 : (61 : UInt8) ∉ s.data.toList.take (k + 1) := by
          obtain ⟨y, hy⟩ : ∃ y, s.data.toList[k]? = some y := ⟨_, List.getElem?_eq_getElem hc⟩
          rw [List.take_add_one, hy]
          intro h
          rcases List.mem_append.1 h with h | h
          · exact hno.out h
          · have : y = 61 := (show (61 : UInt8) = y by simpa using h).symm
            rw [this] at hy; exact he hy
        replace hcv := Lib.hid hcv; replace hq := Lib.hid hq; replace he := Lib.hid he; replace hno2 := Lib.hid hno2
        go_wp2
        go_roundw
        case rel => exact ⟨k + 1, by go_num, by omega, hno2.out, trivial⟩
        case measure => simp [intOf]; omega
    · have hc1 : ¬ (k : Int) < s.size := by omega
      have hn : keyVal s = none := keyVal_no (by have := hno.out; rwa [List.take_of_length_le (by rw [toL_len]; omega)] at this)
      replace hn := Lib.hid hn
      go_wp2
      go_ret2
      exact ⟨Below.refl _ _, .inl ⟨rfl, .inl hn.out⟩⟩
end Go.Proofs.YteoihdkaoipocaaDoor

/- corveeref08.set: a field set, as the document tells it. -/
namespace Go.Proofs.YteoihdkaoipocaaDoor
open Go.RowKit Go.Maps Go.Shelf Go.Sort

def RsetPost (x : Spv) (k v : ByteArray) (w : World) (e : Ending) (w' : World) : Prop :=
  ∃ (x' : Spv) (b : Bool), e = .returned (.tuple #[x'.val, .bool b]) ∧ Below w.heap.size w w' ∧ setP k v x.pl = (if b = true then some x'.pl else none) ∧ (b = true → x'.ok w') ∧ (x'.so = x.so ∨ ∀ b o, x'.so = some ⟨b, o, none⟩ → w.heap.size ≤ b ∧ b < w'.heap.size)
def BW (w : World) (x : Spv) : World := (w.alloc (.cells x.cells 28 (0, 0))).alloc (.cells Spv.zero.cells 28 (0, 0))
structure RsW (w : World) (x : Spv) (W : World) : Prop where
  low : Below w.heap.size w W
  box : W.heap[w.heap.size]? = some (.cells x.cells 28 (0, 0))
  res : W.heap[w.heap.size + 1]? = some (.cells Spv.zero.cells 28 (0, 0))
theorem RsW.new (w : World) (x : Spv) : RsW w x (BW w x) := ⟨((Below.refl _ _).alloc (Nat.le_refl _) _).alloc (by simp) _, blk_old _ (blk_new _ _), blk_at _ _ (by simp)⟩
theorem RsW.on {w W W' : World} {x : Spv} (h : RsW w x W) (hb : Below W.heap.size W W') : RsW w x W' := ⟨h.low.trans (hb.mono h.low.size), blk_below hb h.box (blk_lt h.box), blk_below hb h.res (blk_lt h.res)⟩
theorem RsW.set {w W : World} {x x' : Spv} (h : RsW w x W) (o : Nat) (v : Value) (e : x.cells.setIfInBounds o v = x'.cells) : RsW w x' (W.setCell ⟨w.heap.size, o, none⟩ v) :=
  ⟨h.low.setCell (Nat.le_refl _) _, by rw [← e]; exact blk_set h.box o v, blk_set_other (by omega) _ h.res⟩
theorem rlow13 {w W : World} (h : Below w.heap.size w W) (v0 v1 v2 v3 v4 v5 v6 v7 v8 v9 v10 v11 v12 : Value) : Below w.heap.size w (((((((((((((W.setCell ⟨w.heap.size + 1, 0, none⟩ v0).setCell ⟨w.heap.size + 1, 1, none⟩ v1).setCell ⟨w.heap.size + 1, 2, none⟩ v2).setCell ⟨w.heap.size + 1, 3, none⟩ v3).setCell ⟨w.heap.size + 1, 4, none⟩ v4).setCell ⟨w.heap.size + 1, 5, none⟩ v5).setCell ⟨w.heap.size + 1, 6, none⟩ v6).setCell ⟨w.heap.size + 1, 7, none⟩ v7).setCell ⟨w.heap.size + 1, 8, none⟩ v8).setCell ⟨w.heap.size + 1, 9, none⟩ v9).setCell ⟨w.heap.size + 1, 10, none⟩ v10).setCell ⟨w.heap.size + 1, 11, none⟩ v11).setCell ⟨w.heap.size + 1, 12, none⟩ v12) :=
  ((((((((((((h.setCell (Nat.le_succ _) _).setCell (Nat.le_succ _) _).setCell (Nat.le_succ _) _).setCell (Nat.le_succ _) _).setCell (Nat.le_succ _) _).setCell (Nat.le_succ _) _).setCell (Nat.le_succ _) _).setCell (Nat.le_succ _) _).setCell (Nat.le_succ _) _).setCell (Nat.le_succ _) _).setCell (Nat.le_succ _) _).setCell (Nat.le_succ _) _).setCell (Nat.le_succ _) _
theorem rgb13 (w W : World) (v0 v1 v2 v3 v4 v5 v6 v7 v8 v9 v10 v11 v12 : Value) : W.grownBy (((((((((((((W.setCell ⟨w.heap.size + 1, 0, none⟩ v0).setCell ⟨w.heap.size + 1, 1, none⟩ v1).setCell ⟨w.heap.size + 1, 2, none⟩ v2).setCell ⟨w.heap.size + 1, 3, none⟩ v3).setCell ⟨w.heap.size + 1, 4, none⟩ v4).setCell ⟨w.heap.size + 1, 5, none⟩ v5).setCell ⟨w.heap.size + 1, 6, none⟩ v6).setCell ⟨w.heap.size + 1, 7, none⟩ v7).setCell ⟨w.heap.size + 1, 8, none⟩ v8).setCell ⟨w.heap.size + 1, 9, none⟩ v9).setCell ⟨w.heap.size + 1, 10, none⟩ v10).setCell ⟨w.heap.size + 1, 11, none⟩ v11).setCell ⟨w.heap.size + 1, 12, none⟩ v12) (some (w.heap.size + 1)) :=
  gb_set (gb_set (gb_set (gb_set (gb_set (gb_set (gb_set (gb_set (gb_set (gb_set (gb_set (gb_set (gb_set (gb_refl W _) _) _) _) _) _) _) _) _) _) _) _) _) _
set_option maxRecDepth 100000 in
set_option maxHeartbeats 3200000 in
theorem rset_user (v : ByteArray) (x : Spv) (w : World) (hx : x.ok w) (hv : v.size ≤ maxLen) : Calls Tryd.prog 67 #[x.val, .int .i64 0, .string v] w (RsetPost x kUser v w) := by
  obtain ⟨⟨user, part, nodes, ⟨da, db, dc, dd⟩, wall, prio, array, retries, held, after⟩, so, n, cp⟩ := x
  have hR := RsW.new w ⟨⟨v, part, nodes, ⟨da, db, dc, dd⟩, wall, prio, array, retries, held, after⟩, so, n, cp⟩
  have hcn := rname_any v (BW w ⟨⟨v, part, nodes, ⟨da, db, dc, dd⟩, wall, prio, array, retries, held, after⟩, so, n, cp⟩) hv
  obtain ⟨b, hb⟩ : ∃ b, b = isName v := ⟨_, rfl⟩
  rw [← hb] at hcn
  have hz : setP kUser v ⟨user, part, nodes, ⟨da, db, dc, dd⟩, wall, prio, array, retries, held, after⟩ = if b = true then some ⟨v, part, nodes, ⟨da, db, dc, dd⟩, wall, prio, array, retries, held, after⟩ else none := by rw [hb]; rfl
  replace hR := Lib.hid hR; replace hcn := Lib.hid hcn; replace hb := Lib.hid hb; replace hz := Lib.hid hz; replace hx := Lib.hid hx; replace hv := Lib.hid hv
  go_enter Tryd.func67, Tryd.ntmps67
  go_wp2_with fail
  refine hcn.out.mono ?_
  rintro e w2 ⟨rfl, hb2⟩
  have hR2 := hR.out.on hb2
  have y0 : w2.cell? ⟨w.heap.size, 0, none⟩ = some (.string v) := blk_cell (hR2).box 0
  have y1 : w2.cell? ⟨w.heap.size, 1, none⟩ = some (.string part) := blk_cell (hR2).box 1
  have y2 : w2.cell? ⟨w.heap.size, 2, none⟩ = some (.int .i64 nodes) := blk_cell (hR2).box 2
  have y3 : w2.cell? ⟨w.heap.size, 3, none⟩ = some (.int .i64 da) := blk_cell (hR2).box 3
  have y4 : w2.cell? ⟨w.heap.size, 4, none⟩ = some (.int .i64 db) := blk_cell (hR2).box 4
  have y5 : w2.cell? ⟨w.heap.size, 5, none⟩ = some (.int .i64 dc) := blk_cell (hR2).box 5
  have y6 : w2.cell? ⟨w.heap.size, 6, none⟩ = some (.int .i64 dd) := blk_cell (hR2).box 6
  have y7 : w2.cell? ⟨w.heap.size, 7, none⟩ = some (.int .i64 wall) := blk_cell (hR2).box 7
  have y8 : w2.cell? ⟨w.heap.size, 8, none⟩ = some (.int .i64 prio) := blk_cell (hR2).box 8
  have y9 : w2.cell? ⟨w.heap.size, 9, none⟩ = some (.int .i64 array) := blk_cell (hR2).box 9
  have y10 : w2.cell? ⟨w.heap.size, 10, none⟩ = some (.int .i64 retries) := blk_cell (hR2).box 10
  have y11 : w2.cell? ⟨w.heap.size, 11, none⟩ = some (.bool held) := blk_cell (hR2).box 11
  have y12 : w2.cell? ⟨w.heap.size, 12, none⟩ = some (.slice so n cp) := blk_cell (hR2).box 12
  have x0 : w2.cell? ⟨w.heap.size + 1, 0, none⟩ = some (.string ByteArray.empty) := blk_cell (hR2).res 0
  have x1 : w2.cell? ⟨w.heap.size + 1, 1, none⟩ = some (.string ByteArray.empty) := blk_cell (hR2).res 1
  have x2 : w2.cell? ⟨w.heap.size + 1, 2, none⟩ = some (.int .i64 0) := blk_cell (hR2).res 2
  have x3 : w2.cell? ⟨w.heap.size + 1, 3, none⟩ = some (.int .i64 0) := blk_cell (hR2).res 3
  have x4 : w2.cell? ⟨w.heap.size + 1, 4, none⟩ = some (.int .i64 0) := blk_cell (hR2).res 4
  have x5 : w2.cell? ⟨w.heap.size + 1, 5, none⟩ = some (.int .i64 0) := blk_cell (hR2).res 5
  have x6 : w2.cell? ⟨w.heap.size + 1, 6, none⟩ = some (.int .i64 0) := blk_cell (hR2).res 6
  have x7 : w2.cell? ⟨w.heap.size + 1, 7, none⟩ = some (.int .i64 0) := blk_cell (hR2).res 7
  have x8 : w2.cell? ⟨w.heap.size + 1, 8, none⟩ = some (.int .i64 0) := blk_cell (hR2).res 8
  have x9 : w2.cell? ⟨w.heap.size + 1, 9, none⟩ = some (.int .i64 0) := blk_cell (hR2).res 9
  have x10 : w2.cell? ⟨w.heap.size + 1, 10, none⟩ = some (.int .i64 0) := blk_cell (hR2).res 10
  have x11 : w2.cell? ⟨w.heap.size + 1, 11, none⟩ = some (.bool false) := blk_cell (hR2).res 11
  have x12 : w2.cell? ⟨w.heap.size + 1, 12, none⟩ = some (.slice none 0 0) := blk_cell (hR2).res 12
  have fb := blk_free (hR2).box
  have fr := blk_free (hR2).res
  replace hR2 := Lib.hid hR2; replace hb2 := Lib.hid hb2
  cases b with
  | false =>
    go_wp2
    refine bodyPost_ret (v := .tuple #[(⟨⟨v, part, nodes, ⟨da, db, dc, dd⟩, wall, prio, array, retries, held, after⟩, so, n, cp⟩ : Spv).val, .bool false]) (by simp [results, Tryd.results67, go_sem, x0, x1, x2, x3, x4, x5, x6, x7, x8, x9, x10, x11, x12]) rfl ⟨⟨⟨v, part, nodes, ⟨da, db, dc, dd⟩, wall, prio, array, retries, held, after⟩, so, n, cp⟩, false, rfl, rlow13 (hR2.out.low) _ _ _ _ _ _ _ _ _ _ _ _ _, hz.out, (fun h => by cases h), .inl rfl⟩
  | true =>
    go_wp2
    refine bodyPost_ret (v := .tuple #[(⟨⟨v, part, nodes, ⟨da, db, dc, dd⟩, wall, prio, array, retries, held, after⟩, so, n, cp⟩ : Spv).val, .bool true]) (by simp [results, Tryd.results67, go_sem, x0, x1, x2, x3, x4, x5, x6, x7, x8, x9, x10, x11, x12]) rfl ⟨⟨⟨v, part, nodes, ⟨da, db, dc, dd⟩, wall, prio, array, retries, held, after⟩, so, n, cp⟩, true, rfl, rlow13 (hR2.out.low) _ _ _ _ _ _ _ _ _ _ _ _ _, hz.out, (fun _ => ⟨hx.out.after.low (rlow13 hR2.out.low _ _ _ _ _ _ _ _ _ _ _ _ _), hx.out.ple, hv.out, hx.out.part⟩), .inl rfl⟩
set_option maxRecDepth 100000 in
set_option maxHeartbeats 3200000 in
theorem rset_part (v : ByteArray) (x : Spv) (w : World) (hx : x.ok w) (hv : v.size ≤ maxLen) : Calls Tryd.prog 67 #[x.val, .int .i64 1, .string v] w (RsetPost x kPart v w) := by
  obtain ⟨⟨user, part, nodes, ⟨da, db, dc, dd⟩, wall, prio, array, retries, held, after⟩, so, n, cp⟩ := x
  have hR := RsW.new w ⟨⟨user, v, nodes, ⟨da, db, dc, dd⟩, wall, prio, array, retries, held, after⟩, so, n, cp⟩
  have hcn := rname_any v (BW w ⟨⟨user, v, nodes, ⟨da, db, dc, dd⟩, wall, prio, array, retries, held, after⟩, so, n, cp⟩) hv
  obtain ⟨b, hb⟩ : ∃ b, b = isName v := ⟨_, rfl⟩
  rw [← hb] at hcn
  have hz : setP kPart v ⟨user, part, nodes, ⟨da, db, dc, dd⟩, wall, prio, array, retries, held, after⟩ = if b = true then some ⟨user, v, nodes, ⟨da, db, dc, dd⟩, wall, prio, array, retries, held, after⟩ else none := by rw [hb]; rfl
  replace hR := Lib.hid hR; replace hcn := Lib.hid hcn; replace hb := Lib.hid hb; replace hz := Lib.hid hz; replace hx := Lib.hid hx; replace hv := Lib.hid hv
  go_enter Tryd.func67, Tryd.ntmps67
  go_wp2_with fail
  refine hcn.out.mono ?_
  rintro e w2 ⟨rfl, hb2⟩
  have hR2 := hR.out.on hb2
  have y0 : w2.cell? ⟨w.heap.size, 0, none⟩ = some (.string user) := blk_cell (hR2).box 0
  have y1 : w2.cell? ⟨w.heap.size, 1, none⟩ = some (.string v) := blk_cell (hR2).box 1
  have y2 : w2.cell? ⟨w.heap.size, 2, none⟩ = some (.int .i64 nodes) := blk_cell (hR2).box 2
  have y3 : w2.cell? ⟨w.heap.size, 3, none⟩ = some (.int .i64 da) := blk_cell (hR2).box 3
  have y4 : w2.cell? ⟨w.heap.size, 4, none⟩ = some (.int .i64 db) := blk_cell (hR2).box 4
  have y5 : w2.cell? ⟨w.heap.size, 5, none⟩ = some (.int .i64 dc) := blk_cell (hR2).box 5
  have y6 : w2.cell? ⟨w.heap.size, 6, none⟩ = some (.int .i64 dd) := blk_cell (hR2).box 6
  have y7 : w2.cell? ⟨w.heap.size, 7, none⟩ = some (.int .i64 wall) := blk_cell (hR2).box 7
  have y8 : w2.cell? ⟨w.heap.size, 8, none⟩ = some (.int .i64 prio) := blk_cell (hR2).box 8
  have y9 : w2.cell? ⟨w.heap.size, 9, none⟩ = some (.int .i64 array) := blk_cell (hR2).box 9
  have y10 : w2.cell? ⟨w.heap.size, 10, none⟩ = some (.int .i64 retries) := blk_cell (hR2).box 10
  have y11 : w2.cell? ⟨w.heap.size, 11, none⟩ = some (.bool held) := blk_cell (hR2).box 11
  have y12 : w2.cell? ⟨w.heap.size, 12, none⟩ = some (.slice so n cp) := blk_cell (hR2).box 12
  have x0 : w2.cell? ⟨w.heap.size + 1, 0, none⟩ = some (.string ByteArray.empty) := blk_cell (hR2).res 0
  have x1 : w2.cell? ⟨w.heap.size + 1, 1, none⟩ = some (.string ByteArray.empty) := blk_cell (hR2).res 1
  have x2 : w2.cell? ⟨w.heap.size + 1, 2, none⟩ = some (.int .i64 0) := blk_cell (hR2).res 2
  have x3 : w2.cell? ⟨w.heap.size + 1, 3, none⟩ = some (.int .i64 0) := blk_cell (hR2).res 3
  have x4 : w2.cell? ⟨w.heap.size + 1, 4, none⟩ = some (.int .i64 0) := blk_cell (hR2).res 4
  have x5 : w2.cell? ⟨w.heap.size + 1, 5, none⟩ = some (.int .i64 0) := blk_cell (hR2).res 5
  have x6 : w2.cell? ⟨w.heap.size + 1, 6, none⟩ = some (.int .i64 0) := blk_cell (hR2).res 6
  have x7 : w2.cell? ⟨w.heap.size + 1, 7, none⟩ = some (.int .i64 0) := blk_cell (hR2).res 7
  have x8 : w2.cell? ⟨w.heap.size + 1, 8, none⟩ = some (.int .i64 0) := blk_cell (hR2).res 8
  have x9 : w2.cell? ⟨w.heap.size + 1, 9, none⟩ = some (.int .i64 0) := blk_cell (hR2).res 9
  have x10 : w2.cell? ⟨w.heap.size + 1, 10, none⟩ = some (.int .i64 0) := blk_cell (hR2).res 10
  have x11 : w2.cell? ⟨w.heap.size + 1, 11, none⟩ = some (.bool false) := blk_cell (hR2).res 11
  have x12 : w2.cell? ⟨w.heap.size + 1, 12, none⟩ = some (.slice none 0 0) := blk_cell (hR2).res 12
  have fb := blk_free (hR2).box
  have fr := blk_free (hR2).res
  replace hR2 := Lib.hid hR2; replace hb2 := Lib.hid hb2
  cases b with
  | false =>
    go_wp2
    refine bodyPost_ret (v := .tuple #[(⟨⟨user, v, nodes, ⟨da, db, dc, dd⟩, wall, prio, array, retries, held, after⟩, so, n, cp⟩ : Spv).val, .bool false]) (by simp [results, Tryd.results67, go_sem, x0, x1, x2, x3, x4, x5, x6, x7, x8, x9, x10, x11, x12]) rfl ⟨⟨⟨user, v, nodes, ⟨da, db, dc, dd⟩, wall, prio, array, retries, held, after⟩, so, n, cp⟩, false, rfl, rlow13 (hR2.out.low) _ _ _ _ _ _ _ _ _ _ _ _ _, hz.out, (fun h => by cases h), .inl rfl⟩
  | true =>
    go_wp2
    refine bodyPost_ret (v := .tuple #[(⟨⟨user, v, nodes, ⟨da, db, dc, dd⟩, wall, prio, array, retries, held, after⟩, so, n, cp⟩ : Spv).val, .bool true]) (by simp [results, Tryd.results67, go_sem, x0, x1, x2, x3, x4, x5, x6, x7, x8, x9, x10, x11, x12]) rfl ⟨⟨⟨user, v, nodes, ⟨da, db, dc, dd⟩, wall, prio, array, retries, held, after⟩, so, n, cp⟩, true, rfl, rlow13 (hR2.out.low) _ _ _ _ _ _ _ _ _ _ _ _ _, hz.out, (fun _ => ⟨hx.out.after.low (rlow13 hR2.out.low _ _ _ _ _ _ _ _ _ _ _ _ _), hx.out.ple, hx.out.user, hv.out⟩), .inl rfl⟩
set_option maxRecDepth 100000 in
set_option maxHeartbeats 3200000 in
theorem rset_nodes (v : ByteArray) (x : Spv) (w : World) (hx : x.ok w) (hv : v.size ≤ maxLen) : Calls Tryd.prog 67 #[x.val, .int .i64 2, .string v] w (RsetPost x kNodes v w) := by
  obtain ⟨⟨user, part, nodes, ⟨da, db, dc, dd⟩, wall, prio, array, retries, held, after⟩, so, n, cp⟩ := x
  have hR := RsW.new w ⟨⟨user, part, nodes, ⟨da, db, dc, dd⟩, wall, prio, array, retries, held, after⟩, so, n, cp⟩
  have hcn := rnumber_any v 1 16 (BW w ⟨⟨user, part, nodes, ⟨da, db, dc, dd⟩, wall, prio, array, retries, held, after⟩, so, n, cp⟩) hv
  obtain ⟨f, hf⟩ : ∃ f, f = fieldN v 1 16 := ⟨_, rfl⟩
  rw [← hf] at hcn
  cases f with
  | none =>
    have hz : setP kNodes v ⟨user, part, nodes, ⟨da, db, dc, dd⟩, wall, prio, array, retries, held, after⟩ = none := by
      show (fieldN v 1 16).map _ = none
      rw [← hf]; rfl
    simp only [Option.getD_none] at hcn
    replace hR := Lib.hid hR; replace hcn := Lib.hid hcn; replace hf := Lib.hid hf; replace hz := Lib.hid hz; replace hx := Lib.hid hx; replace hv := Lib.hid hv
    go_enter Tryd.func67, Tryd.ntmps67
    go_wp2_with fail
    refine hcn.out.mono ?_
    rintro e w2 ⟨rfl, hb2⟩
    have hR2 := hR.out.on hb2
    have y0 : w2.cell? ⟨w.heap.size, 0, none⟩ = some (.string user) := blk_cell (hR2).box 0
    have y1 : w2.cell? ⟨w.heap.size, 1, none⟩ = some (.string part) := blk_cell (hR2).box 1
    have y2 : w2.cell? ⟨w.heap.size, 2, none⟩ = some (.int .i64 nodes) := blk_cell (hR2).box 2
    have y3 : w2.cell? ⟨w.heap.size, 3, none⟩ = some (.int .i64 da) := blk_cell (hR2).box 3
    have y4 : w2.cell? ⟨w.heap.size, 4, none⟩ = some (.int .i64 db) := blk_cell (hR2).box 4
    have y5 : w2.cell? ⟨w.heap.size, 5, none⟩ = some (.int .i64 dc) := blk_cell (hR2).box 5
    have y6 : w2.cell? ⟨w.heap.size, 6, none⟩ = some (.int .i64 dd) := blk_cell (hR2).box 6
    have y7 : w2.cell? ⟨w.heap.size, 7, none⟩ = some (.int .i64 wall) := blk_cell (hR2).box 7
    have y8 : w2.cell? ⟨w.heap.size, 8, none⟩ = some (.int .i64 prio) := blk_cell (hR2).box 8
    have y9 : w2.cell? ⟨w.heap.size, 9, none⟩ = some (.int .i64 array) := blk_cell (hR2).box 9
    have y10 : w2.cell? ⟨w.heap.size, 10, none⟩ = some (.int .i64 retries) := blk_cell (hR2).box 10
    have y11 : w2.cell? ⟨w.heap.size, 11, none⟩ = some (.bool held) := blk_cell (hR2).box 11
    have y12 : w2.cell? ⟨w.heap.size, 12, none⟩ = some (.slice so n cp) := blk_cell (hR2).box 12
    have x0 : w2.cell? ⟨w.heap.size + 1, 0, none⟩ = some (.string ByteArray.empty) := blk_cell (hR2).res 0
    have x1 : w2.cell? ⟨w.heap.size + 1, 1, none⟩ = some (.string ByteArray.empty) := blk_cell (hR2).res 1
    have x2 : w2.cell? ⟨w.heap.size + 1, 2, none⟩ = some (.int .i64 0) := blk_cell (hR2).res 2
    have x3 : w2.cell? ⟨w.heap.size + 1, 3, none⟩ = some (.int .i64 0) := blk_cell (hR2).res 3
    have x4 : w2.cell? ⟨w.heap.size + 1, 4, none⟩ = some (.int .i64 0) := blk_cell (hR2).res 4
    have x5 : w2.cell? ⟨w.heap.size + 1, 5, none⟩ = some (.int .i64 0) := blk_cell (hR2).res 5
    have x6 : w2.cell? ⟨w.heap.size + 1, 6, none⟩ = some (.int .i64 0) := blk_cell (hR2).res 6
    have x7 : w2.cell? ⟨w.heap.size + 1, 7, none⟩ = some (.int .i64 0) := blk_cell (hR2).res 7
    have x8 : w2.cell? ⟨w.heap.size + 1, 8, none⟩ = some (.int .i64 0) := blk_cell (hR2).res 8
    have x9 : w2.cell? ⟨w.heap.size + 1, 9, none⟩ = some (.int .i64 0) := blk_cell (hR2).res 9
    have x10 : w2.cell? ⟨w.heap.size + 1, 10, none⟩ = some (.int .i64 0) := blk_cell (hR2).res 10
    have x11 : w2.cell? ⟨w.heap.size + 1, 11, none⟩ = some (.bool false) := blk_cell (hR2).res 11
    have x12 : w2.cell? ⟨w.heap.size + 1, 12, none⟩ = some (.slice none 0 0) := blk_cell (hR2).res 12
    have fb := blk_free (hR2).box
    have fr := blk_free (hR2).res
    replace hR2 := Lib.hid hR2; replace hb2 := Lib.hid hb2
    go_wp2
    refine bodyPost_ret (v := .tuple #[(⟨⟨user, part, (-1), ⟨da, db, dc, dd⟩, wall, prio, array, retries, held, after⟩, so, n, cp⟩ : Spv).val, .bool false]) (by simp [results, Tryd.results67, go_sem, x0, x1, x2, x3, x4, x5, x6, x7, x8, x9, x10, x11, x12]) rfl ⟨⟨⟨user, part, (-1), ⟨da, db, dc, dd⟩, wall, prio, array, retries, held, after⟩, so, n, cp⟩, false, rfl, rlow13 (hR2.out.low.setCell (Nat.le_refl _) _) _ _ _ _ _ _ _ _ _ _ _ _ _, hz.out, (fun h => by cases h), .inl rfl⟩
  | some m =>
    have hm := fieldN_some hf.symm
    have hm0 : 0 ≤ m := by have := betw_iff.1 hm.1; omega
    have d : decide (0 ≤ m) = true := decide_eq_true hm0
    have hz : setP kNodes v ⟨user, part, nodes, ⟨da, db, dc, dd⟩, wall, prio, array, retries, held, after⟩ = some ⟨user, part, m, ⟨da, db, dc, dd⟩, wall, prio, array, retries, held, after⟩ := by
      show (fieldN v 1 16).map _ = some _
      rw [← hf]; rfl
    simp only [Option.getD_some] at hcn
    replace hR := Lib.hid hR; replace hcn := Lib.hid hcn; replace hf := Lib.hid hf; replace hz := Lib.hid hz; replace hx := Lib.hid hx; replace hv := Lib.hid hv; replace hm := Lib.hid hm
    go_enter Tryd.func67, Tryd.ntmps67
    go_wp2_with fail
    refine hcn.out.mono ?_
    rintro e w2 ⟨rfl, hb2⟩
    have hR2 := hR.out.on hb2
    have y0 : w2.cell? ⟨w.heap.size, 0, none⟩ = some (.string user) := blk_cell (hR2).box 0
    have y1 : w2.cell? ⟨w.heap.size, 1, none⟩ = some (.string part) := blk_cell (hR2).box 1
    have y2 : w2.cell? ⟨w.heap.size, 2, none⟩ = some (.int .i64 nodes) := blk_cell (hR2).box 2
    have y3 : w2.cell? ⟨w.heap.size, 3, none⟩ = some (.int .i64 da) := blk_cell (hR2).box 3
    have y4 : w2.cell? ⟨w.heap.size, 4, none⟩ = some (.int .i64 db) := blk_cell (hR2).box 4
    have y5 : w2.cell? ⟨w.heap.size, 5, none⟩ = some (.int .i64 dc) := blk_cell (hR2).box 5
    have y6 : w2.cell? ⟨w.heap.size, 6, none⟩ = some (.int .i64 dd) := blk_cell (hR2).box 6
    have y7 : w2.cell? ⟨w.heap.size, 7, none⟩ = some (.int .i64 wall) := blk_cell (hR2).box 7
    have y8 : w2.cell? ⟨w.heap.size, 8, none⟩ = some (.int .i64 prio) := blk_cell (hR2).box 8
    have y9 : w2.cell? ⟨w.heap.size, 9, none⟩ = some (.int .i64 array) := blk_cell (hR2).box 9
    have y10 : w2.cell? ⟨w.heap.size, 10, none⟩ = some (.int .i64 retries) := blk_cell (hR2).box 10
    have y11 : w2.cell? ⟨w.heap.size, 11, none⟩ = some (.bool held) := blk_cell (hR2).box 11
    have y12 : w2.cell? ⟨w.heap.size, 12, none⟩ = some (.slice so n cp) := blk_cell (hR2).box 12
    have x0 : w2.cell? ⟨w.heap.size + 1, 0, none⟩ = some (.string ByteArray.empty) := blk_cell (hR2).res 0
    have x1 : w2.cell? ⟨w.heap.size + 1, 1, none⟩ = some (.string ByteArray.empty) := blk_cell (hR2).res 1
    have x2 : w2.cell? ⟨w.heap.size + 1, 2, none⟩ = some (.int .i64 0) := blk_cell (hR2).res 2
    have x3 : w2.cell? ⟨w.heap.size + 1, 3, none⟩ = some (.int .i64 0) := blk_cell (hR2).res 3
    have x4 : w2.cell? ⟨w.heap.size + 1, 4, none⟩ = some (.int .i64 0) := blk_cell (hR2).res 4
    have x5 : w2.cell? ⟨w.heap.size + 1, 5, none⟩ = some (.int .i64 0) := blk_cell (hR2).res 5
    have x6 : w2.cell? ⟨w.heap.size + 1, 6, none⟩ = some (.int .i64 0) := blk_cell (hR2).res 6
    have x7 : w2.cell? ⟨w.heap.size + 1, 7, none⟩ = some (.int .i64 0) := blk_cell (hR2).res 7
    have x8 : w2.cell? ⟨w.heap.size + 1, 8, none⟩ = some (.int .i64 0) := blk_cell (hR2).res 8
    have x9 : w2.cell? ⟨w.heap.size + 1, 9, none⟩ = some (.int .i64 0) := blk_cell (hR2).res 9
    have x10 : w2.cell? ⟨w.heap.size + 1, 10, none⟩ = some (.int .i64 0) := blk_cell (hR2).res 10
    have x11 : w2.cell? ⟨w.heap.size + 1, 11, none⟩ = some (.bool false) := blk_cell (hR2).res 11
    have x12 : w2.cell? ⟨w.heap.size + 1, 12, none⟩ = some (.slice none 0 0) := blk_cell (hR2).res 12
    have fb := blk_free (hR2).box
    have fr := blk_free (hR2).res
    replace hR2 := Lib.hid hR2; replace hb2 := Lib.hid hb2
    go_wp2
    refine bodyPost_ret (v := .tuple #[(⟨⟨user, part, m, ⟨da, db, dc, dd⟩, wall, prio, array, retries, held, after⟩, so, n, cp⟩ : Spv).val, .bool true]) (by simp [results, Tryd.results67, go_sem, x0, x1, x2, x3, x4, x5, x6, x7, x8, x9, x10, x11, x12]) rfl ⟨⟨⟨user, part, m, ⟨da, db, dc, dd⟩, wall, prio, array, retries, held, after⟩, so, n, cp⟩, true, rfl, rlow13 (hR2.out.low.setCell (Nat.le_refl _) _) _ _ _ _ _ _ _ _ _ _ _ _ _, hz.out, (fun _ => ⟨hx.out.after.low (rlow13 (hR2.out.low.setCell (Nat.le_refl _) _) _ _ _ _ _ _ _ _ _ _ _ _ _), hx.out.ple, hx.out.user, hx.out.part⟩), .inl rfl⟩
set_option maxRecDepth 100000 in
set_option maxHeartbeats 3200000 in
theorem rset_wall (v : ByteArray) (x : Spv) (w : World) (hx : x.ok w) (hv : v.size ≤ maxLen) : Calls Tryd.prog 67 #[x.val, .int .i64 4, .string v] w (RsetPost x kWall v w) := by
  obtain ⟨⟨user, part, nodes, ⟨da, db, dc, dd⟩, wall, prio, array, retries, held, after⟩, so, n, cp⟩ := x
  have hR := RsW.new w ⟨⟨user, part, nodes, ⟨da, db, dc, dd⟩, wall, prio, array, retries, held, after⟩, so, n, cp⟩
  have hcn := rnumber_any v 1 1000 (BW w ⟨⟨user, part, nodes, ⟨da, db, dc, dd⟩, wall, prio, array, retries, held, after⟩, so, n, cp⟩) hv
  obtain ⟨f, hf⟩ : ∃ f, f = fieldN v 1 1000 := ⟨_, rfl⟩
  rw [← hf] at hcn
  cases f with
  | none =>
    have hz : setP kWall v ⟨user, part, nodes, ⟨da, db, dc, dd⟩, wall, prio, array, retries, held, after⟩ = none := by
      show (fieldN v 1 1000).map _ = none
      rw [← hf]; rfl
    simp only [Option.getD_none] at hcn
    replace hR := Lib.hid hR; replace hcn := Lib.hid hcn; replace hf := Lib.hid hf; replace hz := Lib.hid hz; replace hx := Lib.hid hx; replace hv := Lib.hid hv
    go_enter Tryd.func67, Tryd.ntmps67
    go_wp2_with fail
    refine hcn.out.mono ?_
    rintro e w2 ⟨rfl, hb2⟩
    have hR2 := hR.out.on hb2
    have y0 : w2.cell? ⟨w.heap.size, 0, none⟩ = some (.string user) := blk_cell (hR2).box 0
    have y1 : w2.cell? ⟨w.heap.size, 1, none⟩ = some (.string part) := blk_cell (hR2).box 1
    have y2 : w2.cell? ⟨w.heap.size, 2, none⟩ = some (.int .i64 nodes) := blk_cell (hR2).box 2
    have y3 : w2.cell? ⟨w.heap.size, 3, none⟩ = some (.int .i64 da) := blk_cell (hR2).box 3
    have y4 : w2.cell? ⟨w.heap.size, 4, none⟩ = some (.int .i64 db) := blk_cell (hR2).box 4
    have y5 : w2.cell? ⟨w.heap.size, 5, none⟩ = some (.int .i64 dc) := blk_cell (hR2).box 5
    have y6 : w2.cell? ⟨w.heap.size, 6, none⟩ = some (.int .i64 dd) := blk_cell (hR2).box 6
    have y7 : w2.cell? ⟨w.heap.size, 7, none⟩ = some (.int .i64 wall) := blk_cell (hR2).box 7
    have y8 : w2.cell? ⟨w.heap.size, 8, none⟩ = some (.int .i64 prio) := blk_cell (hR2).box 8
    have y9 : w2.cell? ⟨w.heap.size, 9, none⟩ = some (.int .i64 array) := blk_cell (hR2).box 9
    have y10 : w2.cell? ⟨w.heap.size, 10, none⟩ = some (.int .i64 retries) := blk_cell (hR2).box 10
    have y11 : w2.cell? ⟨w.heap.size, 11, none⟩ = some (.bool held) := blk_cell (hR2).box 11
    have y12 : w2.cell? ⟨w.heap.size, 12, none⟩ = some (.slice so n cp) := blk_cell (hR2).box 12
    have x0 : w2.cell? ⟨w.heap.size + 1, 0, none⟩ = some (.string ByteArray.empty) := blk_cell (hR2).res 0
    have x1 : w2.cell? ⟨w.heap.size + 1, 1, none⟩ = some (.string ByteArray.empty) := blk_cell (hR2).res 1
    have x2 : w2.cell? ⟨w.heap.size + 1, 2, none⟩ = some (.int .i64 0) := blk_cell (hR2).res 2
    have x3 : w2.cell? ⟨w.heap.size + 1, 3, none⟩ = some (.int .i64 0) := blk_cell (hR2).res 3
    have x4 : w2.cell? ⟨w.heap.size + 1, 4, none⟩ = some (.int .i64 0) := blk_cell (hR2).res 4
    have x5 : w2.cell? ⟨w.heap.size + 1, 5, none⟩ = some (.int .i64 0) := blk_cell (hR2).res 5
    have x6 : w2.cell? ⟨w.heap.size + 1, 6, none⟩ = some (.int .i64 0) := blk_cell (hR2).res 6
    have x7 : w2.cell? ⟨w.heap.size + 1, 7, none⟩ = some (.int .i64 0) := blk_cell (hR2).res 7
    have x8 : w2.cell? ⟨w.heap.size + 1, 8, none⟩ = some (.int .i64 0) := blk_cell (hR2).res 8
    have x9 : w2.cell? ⟨w.heap.size + 1, 9, none⟩ = some (.int .i64 0) := blk_cell (hR2).res 9
    have x10 : w2.cell? ⟨w.heap.size + 1, 10, none⟩ = some (.int .i64 0) := blk_cell (hR2).res 10
    have x11 : w2.cell? ⟨w.heap.size + 1, 11, none⟩ = some (.bool false) := blk_cell (hR2).res 11
    have x12 : w2.cell? ⟨w.heap.size + 1, 12, none⟩ = some (.slice none 0 0) := blk_cell (hR2).res 12
    have fb := blk_free (hR2).box
    have fr := blk_free (hR2).res
    replace hR2 := Lib.hid hR2; replace hb2 := Lib.hid hb2
    go_wp2
    refine bodyPost_ret (v := .tuple #[(⟨⟨user, part, nodes, ⟨da, db, dc, dd⟩, (-1), prio, array, retries, held, after⟩, so, n, cp⟩ : Spv).val, .bool false]) (by simp [results, Tryd.results67, go_sem, x0, x1, x2, x3, x4, x5, x6, x7, x8, x9, x10, x11, x12]) rfl ⟨⟨⟨user, part, nodes, ⟨da, db, dc, dd⟩, (-1), prio, array, retries, held, after⟩, so, n, cp⟩, false, rfl, rlow13 (hR2.out.low.setCell (Nat.le_refl _) _) _ _ _ _ _ _ _ _ _ _ _ _ _, hz.out, (fun h => by cases h), .inl rfl⟩
  | some m =>
    have hm := fieldN_some hf.symm
    have hm0 : 0 ≤ m := by have := betw_iff.1 hm.1; omega
    have d : decide (0 ≤ m) = true := decide_eq_true hm0
    have hz : setP kWall v ⟨user, part, nodes, ⟨da, db, dc, dd⟩, wall, prio, array, retries, held, after⟩ = some ⟨user, part, nodes, ⟨da, db, dc, dd⟩, m, prio, array, retries, held, after⟩ := by
      show (fieldN v 1 1000).map _ = some _
      rw [← hf]; rfl
    simp only [Option.getD_some] at hcn
    replace hR := Lib.hid hR; replace hcn := Lib.hid hcn; replace hf := Lib.hid hf; replace hz := Lib.hid hz; replace hx := Lib.hid hx; replace hv := Lib.hid hv; replace hm := Lib.hid hm
    go_enter Tryd.func67, Tryd.ntmps67
    go_wp2_with fail
    refine hcn.out.mono ?_
    rintro e w2 ⟨rfl, hb2⟩
    have hR2 := hR.out.on hb2
    have y0 : w2.cell? ⟨w.heap.size, 0, none⟩ = some (.string user) := blk_cell (hR2).box 0
    have y1 : w2.cell? ⟨w.heap.size, 1, none⟩ = some (.string part) := blk_cell (hR2).box 1
    have y2 : w2.cell? ⟨w.heap.size, 2, none⟩ = some (.int .i64 nodes) := blk_cell (hR2).box 2
    have y3 : w2.cell? ⟨w.heap.size, 3, none⟩ = some (.int .i64 da) := blk_cell (hR2).box 3
    have y4 : w2.cell? ⟨w.heap.size, 4, none⟩ = some (.int .i64 db) := blk_cell (hR2).box 4
    have y5 : w2.cell? ⟨w.heap.size, 5, none⟩ = some (.int .i64 dc) := blk_cell (hR2).box 5
    have y6 : w2.cell? ⟨w.heap.size, 6, none⟩ = some (.int .i64 dd) := blk_cell (hR2).box 6
    have y7 : w2.cell? ⟨w.heap.size, 7, none⟩ = some (.int .i64 wall) := blk_cell (hR2).box 7
    have y8 : w2.cell? ⟨w.heap.size, 8, none⟩ = some (.int .i64 prio) := blk_cell (hR2).box 8
    have y9 : w2.cell? ⟨w.heap.size, 9, none⟩ = some (.int .i64 array) := blk_cell (hR2).box 9
    have y10 : w2.cell? ⟨w.heap.size, 10, none⟩ = some (.int .i64 retries) := blk_cell (hR2).box 10
    have y11 : w2.cell? ⟨w.heap.size, 11, none⟩ = some (.bool held) := blk_cell (hR2).box 11
    have y12 : w2.cell? ⟨w.heap.size, 12, none⟩ = some (.slice so n cp) := blk_cell (hR2).box 12
    have x0 : w2.cell? ⟨w.heap.size + 1, 0, none⟩ = some (.string ByteArray.empty) := blk_cell (hR2).res 0
    have x1 : w2.cell? ⟨w.heap.size + 1, 1, none⟩ = some (.string ByteArray.empty) := blk_cell (hR2).res 1
    have x2 : w2.cell? ⟨w.heap.size + 1, 2, none⟩ = some (.int .i64 0) := blk_cell (hR2).res 2
    have x3 : w2.cell? ⟨w.heap.size + 1, 3, none⟩ = some (.int .i64 0) := blk_cell (hR2).res 3
    have x4 : w2.cell? ⟨w.heap.size + 1, 4, none⟩ = some (.int .i64 0) := blk_cell (hR2).res 4
    have x5 : w2.cell? ⟨w.heap.size + 1, 5, none⟩ = some (.int .i64 0) := blk_cell (hR2).res 5
    have x6 : w2.cell? ⟨w.heap.size + 1, 6, none⟩ = some (.int .i64 0) := blk_cell (hR2).res 6
    have x7 : w2.cell? ⟨w.heap.size + 1, 7, none⟩ = some (.int .i64 0) := blk_cell (hR2).res 7
    have x8 : w2.cell? ⟨w.heap.size + 1, 8, none⟩ = some (.int .i64 0) := blk_cell (hR2).res 8
    have x9 : w2.cell? ⟨w.heap.size + 1, 9, none⟩ = some (.int .i64 0) := blk_cell (hR2).res 9
    have x10 : w2.cell? ⟨w.heap.size + 1, 10, none⟩ = some (.int .i64 0) := blk_cell (hR2).res 10
    have x11 : w2.cell? ⟨w.heap.size + 1, 11, none⟩ = some (.bool false) := blk_cell (hR2).res 11
    have x12 : w2.cell? ⟨w.heap.size + 1, 12, none⟩ = some (.slice none 0 0) := blk_cell (hR2).res 12
    have fb := blk_free (hR2).box
    have fr := blk_free (hR2).res
    replace hR2 := Lib.hid hR2; replace hb2 := Lib.hid hb2
    go_wp2
    refine bodyPost_ret (v := .tuple #[(⟨⟨user, part, nodes, ⟨da, db, dc, dd⟩, m, prio, array, retries, held, after⟩, so, n, cp⟩ : Spv).val, .bool true]) (by simp [results, Tryd.results67, go_sem, x0, x1, x2, x3, x4, x5, x6, x7, x8, x9, x10, x11, x12]) rfl ⟨⟨⟨user, part, nodes, ⟨da, db, dc, dd⟩, m, prio, array, retries, held, after⟩, so, n, cp⟩, true, rfl, rlow13 (hR2.out.low.setCell (Nat.le_refl _) _) _ _ _ _ _ _ _ _ _ _ _ _ _, hz.out, (fun _ => ⟨hx.out.after.low (rlow13 (hR2.out.low.setCell (Nat.le_refl _) _) _ _ _ _ _ _ _ _ _ _ _ _ _), hx.out.ple, hx.out.user, hx.out.part⟩), .inl rfl⟩
set_option maxRecDepth 100000 in
set_option maxHeartbeats 3200000 in
theorem rset_prio (v : ByteArray) (x : Spv) (w : World) (hx : x.ok w) (hv : v.size ≤ maxLen) : Calls Tryd.prog 67 #[x.val, .int .i64 5, .string v] w (RsetPost x kPrio v w) := by
  obtain ⟨⟨user, part, nodes, ⟨da, db, dc, dd⟩, wall, prio, array, retries, held, after⟩, so, n, cp⟩ := x
  have hR := RsW.new w ⟨⟨user, part, nodes, ⟨da, db, dc, dd⟩, wall, prio, array, retries, held, after⟩, so, n, cp⟩
  have hcn := rnumber_any v 0 100 (BW w ⟨⟨user, part, nodes, ⟨da, db, dc, dd⟩, wall, prio, array, retries, held, after⟩, so, n, cp⟩) hv
  obtain ⟨f, hf⟩ : ∃ f, f = fieldN v 0 100 := ⟨_, rfl⟩
  rw [← hf] at hcn
  cases f with
  | none =>
    have hz : setP kPrio v ⟨user, part, nodes, ⟨da, db, dc, dd⟩, wall, prio, array, retries, held, after⟩ = none := by
      show (fieldN v 0 100).map _ = none
      rw [← hf]; rfl
    simp only [Option.getD_none] at hcn
    replace hR := Lib.hid hR; replace hcn := Lib.hid hcn; replace hf := Lib.hid hf; replace hz := Lib.hid hz; replace hx := Lib.hid hx; replace hv := Lib.hid hv
    go_enter Tryd.func67, Tryd.ntmps67
    go_wp2_with fail
    refine hcn.out.mono ?_
    rintro e w2 ⟨rfl, hb2⟩
    have hR2 := hR.out.on hb2
    have y0 : w2.cell? ⟨w.heap.size, 0, none⟩ = some (.string user) := blk_cell (hR2).box 0
    have y1 : w2.cell? ⟨w.heap.size, 1, none⟩ = some (.string part) := blk_cell (hR2).box 1
    have y2 : w2.cell? ⟨w.heap.size, 2, none⟩ = some (.int .i64 nodes) := blk_cell (hR2).box 2
    have y3 : w2.cell? ⟨w.heap.size, 3, none⟩ = some (.int .i64 da) := blk_cell (hR2).box 3
    have y4 : w2.cell? ⟨w.heap.size, 4, none⟩ = some (.int .i64 db) := blk_cell (hR2).box 4
    have y5 : w2.cell? ⟨w.heap.size, 5, none⟩ = some (.int .i64 dc) := blk_cell (hR2).box 5
    have y6 : w2.cell? ⟨w.heap.size, 6, none⟩ = some (.int .i64 dd) := blk_cell (hR2).box 6
    have y7 : w2.cell? ⟨w.heap.size, 7, none⟩ = some (.int .i64 wall) := blk_cell (hR2).box 7
    have y8 : w2.cell? ⟨w.heap.size, 8, none⟩ = some (.int .i64 prio) := blk_cell (hR2).box 8
    have y9 : w2.cell? ⟨w.heap.size, 9, none⟩ = some (.int .i64 array) := blk_cell (hR2).box 9
    have y10 : w2.cell? ⟨w.heap.size, 10, none⟩ = some (.int .i64 retries) := blk_cell (hR2).box 10
    have y11 : w2.cell? ⟨w.heap.size, 11, none⟩ = some (.bool held) := blk_cell (hR2).box 11
    have y12 : w2.cell? ⟨w.heap.size, 12, none⟩ = some (.slice so n cp) := blk_cell (hR2).box 12
    have x0 : w2.cell? ⟨w.heap.size + 1, 0, none⟩ = some (.string ByteArray.empty) := blk_cell (hR2).res 0
    have x1 : w2.cell? ⟨w.heap.size + 1, 1, none⟩ = some (.string ByteArray.empty) := blk_cell (hR2).res 1
    have x2 : w2.cell? ⟨w.heap.size + 1, 2, none⟩ = some (.int .i64 0) := blk_cell (hR2).res 2
    have x3 : w2.cell? ⟨w.heap.size + 1, 3, none⟩ = some (.int .i64 0) := blk_cell (hR2).res 3
    have x4 : w2.cell? ⟨w.heap.size + 1, 4, none⟩ = some (.int .i64 0) := blk_cell (hR2).res 4
    have x5 : w2.cell? ⟨w.heap.size + 1, 5, none⟩ = some (.int .i64 0) := blk_cell (hR2).res 5
    have x6 : w2.cell? ⟨w.heap.size + 1, 6, none⟩ = some (.int .i64 0) := blk_cell (hR2).res 6
    have x7 : w2.cell? ⟨w.heap.size + 1, 7, none⟩ = some (.int .i64 0) := blk_cell (hR2).res 7
    have x8 : w2.cell? ⟨w.heap.size + 1, 8, none⟩ = some (.int .i64 0) := blk_cell (hR2).res 8
    have x9 : w2.cell? ⟨w.heap.size + 1, 9, none⟩ = some (.int .i64 0) := blk_cell (hR2).res 9
    have x10 : w2.cell? ⟨w.heap.size + 1, 10, none⟩ = some (.int .i64 0) := blk_cell (hR2).res 10
    have x11 : w2.cell? ⟨w.heap.size + 1, 11, none⟩ = some (.bool false) := blk_cell (hR2).res 11
    have x12 : w2.cell? ⟨w.heap.size + 1, 12, none⟩ = some (.slice none 0 0) := blk_cell (hR2).res 12
    have fb := blk_free (hR2).box
    have fr := blk_free (hR2).res
    replace hR2 := Lib.hid hR2; replace hb2 := Lib.hid hb2
    go_wp2
    refine bodyPost_ret (v := .tuple #[(⟨⟨user, part, nodes, ⟨da, db, dc, dd⟩, wall, (-1), array, retries, held, after⟩, so, n, cp⟩ : Spv).val, .bool false]) (by simp [results, Tryd.results67, go_sem, x0, x1, x2, x3, x4, x5, x6, x7, x8, x9, x10, x11, x12]) rfl ⟨⟨⟨user, part, nodes, ⟨da, db, dc, dd⟩, wall, (-1), array, retries, held, after⟩, so, n, cp⟩, false, rfl, rlow13 (hR2.out.low.setCell (Nat.le_refl _) _) _ _ _ _ _ _ _ _ _ _ _ _ _, hz.out, (fun h => by cases h), .inl rfl⟩
  | some m =>
    have hm := fieldN_some hf.symm
    have hm0 : 0 ≤ m := by have := betw_iff.1 hm.1; omega
    have d : decide (0 ≤ m) = true := decide_eq_true hm0
    have hz : setP kPrio v ⟨user, part, nodes, ⟨da, db, dc, dd⟩, wall, prio, array, retries, held, after⟩ = some ⟨user, part, nodes, ⟨da, db, dc, dd⟩, wall, m, array, retries, held, after⟩ := by
      show (fieldN v 0 100).map _ = some _
      rw [← hf]; rfl
    simp only [Option.getD_some] at hcn
    replace hR := Lib.hid hR; replace hcn := Lib.hid hcn; replace hf := Lib.hid hf; replace hz := Lib.hid hz; replace hx := Lib.hid hx; replace hv := Lib.hid hv; replace hm := Lib.hid hm
    go_enter Tryd.func67, Tryd.ntmps67
    go_wp2_with fail
    refine hcn.out.mono ?_
    rintro e w2 ⟨rfl, hb2⟩
    have hR2 := hR.out.on hb2
    have y0 : w2.cell? ⟨w.heap.size, 0, none⟩ = some (.string user) := blk_cell (hR2).box 0
    have y1 : w2.cell? ⟨w.heap.size, 1, none⟩ = some (.string part) := blk_cell (hR2).box 1
    have y2 : w2.cell? ⟨w.heap.size, 2, none⟩ = some (.int .i64 nodes) := blk_cell (hR2).box 2
    have y3 : w2.cell? ⟨w.heap.size, 3, none⟩ = some (.int .i64 da) := blk_cell (hR2).box 3
    have y4 : w2.cell? ⟨w.heap.size, 4, none⟩ = some (.int .i64 db) := blk_cell (hR2).box 4
    have y5 : w2.cell? ⟨w.heap.size, 5, none⟩ = some (.int .i64 dc) := blk_cell (hR2).box 5
    have y6 : w2.cell? ⟨w.heap.size, 6, none⟩ = some (.int .i64 dd) := blk_cell (hR2).box 6
    have y7 : w2.cell? ⟨w.heap.size, 7, none⟩ = some (.int .i64 wall) := blk_cell (hR2).box 7
    have y8 : w2.cell? ⟨w.heap.size, 8, none⟩ = some (.int .i64 prio) := blk_cell (hR2).box 8
    have y9 : w2.cell? ⟨w.heap.size, 9, none⟩ = some (.int .i64 array) := blk_cell (hR2).box 9
    have y10 : w2.cell? ⟨w.heap.size, 10, none⟩ = some (.int .i64 retries) := blk_cell (hR2).box 10
    have y11 : w2.cell? ⟨w.heap.size, 11, none⟩ = some (.bool held) := blk_cell (hR2).box 11
    have y12 : w2.cell? ⟨w.heap.size, 12, none⟩ = some (.slice so n cp) := blk_cell (hR2).box 12
    have x0 : w2.cell? ⟨w.heap.size + 1, 0, none⟩ = some (.string ByteArray.empty) := blk_cell (hR2).res 0
    have x1 : w2.cell? ⟨w.heap.size + 1, 1, none⟩ = some (.string ByteArray.empty) := blk_cell (hR2).res 1
    have x2 : w2.cell? ⟨w.heap.size + 1, 2, none⟩ = some (.int .i64 0) := blk_cell (hR2).res 2
    have x3 : w2.cell? ⟨w.heap.size + 1, 3, none⟩ = some (.int .i64 0) := blk_cell (hR2).res 3
    have x4 : w2.cell? ⟨w.heap.size + 1, 4, none⟩ = some (.int .i64 0) := blk_cell (hR2).res 4
    have x5 : w2.cell? ⟨w.heap.size + 1, 5, none⟩ = some (.int .i64 0) := blk_cell (hR2).res 5
    have x6 : w2.cell? ⟨w.heap.size + 1, 6, none⟩ = some (.int .i64 0) := blk_cell (hR2).res 6
    have x7 : w2.cell? ⟨w.heap.size + 1, 7, none⟩ = some (.int .i64 0) := blk_cell (hR2).res 7
    have x8 : w2.cell? ⟨w.heap.size + 1, 8, none⟩ = some (.int .i64 0) := blk_cell (hR2).res 8
    have x9 : w2.cell? ⟨w.heap.size + 1, 9, none⟩ = some (.int .i64 0) := blk_cell (hR2).res 9
    have x10 : w2.cell? ⟨w.heap.size + 1, 10, none⟩ = some (.int .i64 0) := blk_cell (hR2).res 10
    have x11 : w2.cell? ⟨w.heap.size + 1, 11, none⟩ = some (.bool false) := blk_cell (hR2).res 11
    have x12 : w2.cell? ⟨w.heap.size + 1, 12, none⟩ = some (.slice none 0 0) := blk_cell (hR2).res 12
    have fb := blk_free (hR2).box
    have fr := blk_free (hR2).res
    replace hR2 := Lib.hid hR2; replace hb2 := Lib.hid hb2
    go_wp2
    refine bodyPost_ret (v := .tuple #[(⟨⟨user, part, nodes, ⟨da, db, dc, dd⟩, wall, m, array, retries, held, after⟩, so, n, cp⟩ : Spv).val, .bool true]) (by simp [results, Tryd.results67, go_sem, x0, x1, x2, x3, x4, x5, x6, x7, x8, x9, x10, x11, x12]) rfl ⟨⟨⟨user, part, nodes, ⟨da, db, dc, dd⟩, wall, m, array, retries, held, after⟩, so, n, cp⟩, true, rfl, rlow13 (hR2.out.low.setCell (Nat.le_refl _) _) _ _ _ _ _ _ _ _ _ _ _ _ _, hz.out, (fun _ => ⟨hx.out.after.low (rlow13 (hR2.out.low.setCell (Nat.le_refl _) _) _ _ _ _ _ _ _ _ _ _ _ _ _), hx.out.ple, hx.out.user, hx.out.part⟩), .inl rfl⟩
set_option maxRecDepth 100000 in
set_option maxHeartbeats 3200000 in
theorem rset_array (v : ByteArray) (x : Spv) (w : World) (hx : x.ok w) (hv : v.size ≤ maxLen) : Calls Tryd.prog 67 #[x.val, .int .i64 6, .string v] w (RsetPost x kArray v w) := by
  obtain ⟨⟨user, part, nodes, ⟨da, db, dc, dd⟩, wall, prio, array, retries, held, after⟩, so, n, cp⟩ := x
  have hR := RsW.new w ⟨⟨user, part, nodes, ⟨da, db, dc, dd⟩, wall, prio, array, retries, held, after⟩, so, n, cp⟩
  have hcn := rnumber_any v 1 20 (BW w ⟨⟨user, part, nodes, ⟨da, db, dc, dd⟩, wall, prio, array, retries, held, after⟩, so, n, cp⟩) hv
  obtain ⟨f, hf⟩ : ∃ f, f = fieldN v 1 20 := ⟨_, rfl⟩
  rw [← hf] at hcn
  cases f with
  | none =>
    have hz : setP kArray v ⟨user, part, nodes, ⟨da, db, dc, dd⟩, wall, prio, array, retries, held, after⟩ = none := by
      show (fieldN v 1 20).map _ = none
      rw [← hf]; rfl
    simp only [Option.getD_none] at hcn
    replace hR := Lib.hid hR; replace hcn := Lib.hid hcn; replace hf := Lib.hid hf; replace hz := Lib.hid hz; replace hx := Lib.hid hx; replace hv := Lib.hid hv
    go_enter Tryd.func67, Tryd.ntmps67
    go_wp2_with fail
    refine hcn.out.mono ?_
    rintro e w2 ⟨rfl, hb2⟩
    have hR2 := hR.out.on hb2
    have y0 : w2.cell? ⟨w.heap.size, 0, none⟩ = some (.string user) := blk_cell (hR2).box 0
    have y1 : w2.cell? ⟨w.heap.size, 1, none⟩ = some (.string part) := blk_cell (hR2).box 1
    have y2 : w2.cell? ⟨w.heap.size, 2, none⟩ = some (.int .i64 nodes) := blk_cell (hR2).box 2
    have y3 : w2.cell? ⟨w.heap.size, 3, none⟩ = some (.int .i64 da) := blk_cell (hR2).box 3
    have y4 : w2.cell? ⟨w.heap.size, 4, none⟩ = some (.int .i64 db) := blk_cell (hR2).box 4
    have y5 : w2.cell? ⟨w.heap.size, 5, none⟩ = some (.int .i64 dc) := blk_cell (hR2).box 5
    have y6 : w2.cell? ⟨w.heap.size, 6, none⟩ = some (.int .i64 dd) := blk_cell (hR2).box 6
    have y7 : w2.cell? ⟨w.heap.size, 7, none⟩ = some (.int .i64 wall) := blk_cell (hR2).box 7
    have y8 : w2.cell? ⟨w.heap.size, 8, none⟩ = some (.int .i64 prio) := blk_cell (hR2).box 8
    have y9 : w2.cell? ⟨w.heap.size, 9, none⟩ = some (.int .i64 array) := blk_cell (hR2).box 9
    have y10 : w2.cell? ⟨w.heap.size, 10, none⟩ = some (.int .i64 retries) := blk_cell (hR2).box 10
    have y11 : w2.cell? ⟨w.heap.size, 11, none⟩ = some (.bool held) := blk_cell (hR2).box 11
    have y12 : w2.cell? ⟨w.heap.size, 12, none⟩ = some (.slice so n cp) := blk_cell (hR2).box 12
    have x0 : w2.cell? ⟨w.heap.size + 1, 0, none⟩ = some (.string ByteArray.empty) := blk_cell (hR2).res 0
    have x1 : w2.cell? ⟨w.heap.size + 1, 1, none⟩ = some (.string ByteArray.empty) := blk_cell (hR2).res 1
    have x2 : w2.cell? ⟨w.heap.size + 1, 2, none⟩ = some (.int .i64 0) := blk_cell (hR2).res 2
    have x3 : w2.cell? ⟨w.heap.size + 1, 3, none⟩ = some (.int .i64 0) := blk_cell (hR2).res 3
    have x4 : w2.cell? ⟨w.heap.size + 1, 4, none⟩ = some (.int .i64 0) := blk_cell (hR2).res 4
    have x5 : w2.cell? ⟨w.heap.size + 1, 5, none⟩ = some (.int .i64 0) := blk_cell (hR2).res 5
    have x6 : w2.cell? ⟨w.heap.size + 1, 6, none⟩ = some (.int .i64 0) := blk_cell (hR2).res 6
    have x7 : w2.cell? ⟨w.heap.size + 1, 7, none⟩ = some (.int .i64 0) := blk_cell (hR2).res 7
    have x8 : w2.cell? ⟨w.heap.size + 1, 8, none⟩ = some (.int .i64 0) := blk_cell (hR2).res 8
    have x9 : w2.cell? ⟨w.heap.size + 1, 9, none⟩ = some (.int .i64 0) := blk_cell (hR2).res 9
    have x10 : w2.cell? ⟨w.heap.size + 1, 10, none⟩ = some (.int .i64 0) := blk_cell (hR2).res 10
    have x11 : w2.cell? ⟨w.heap.size + 1, 11, none⟩ = some (.bool false) := blk_cell (hR2).res 11
    have x12 : w2.cell? ⟨w.heap.size + 1, 12, none⟩ = some (.slice none 0 0) := blk_cell (hR2).res 12
    have fb := blk_free (hR2).box
    have fr := blk_free (hR2).res
    replace hR2 := Lib.hid hR2; replace hb2 := Lib.hid hb2
    go_wp2
    refine bodyPost_ret (v := .tuple #[(⟨⟨user, part, nodes, ⟨da, db, dc, dd⟩, wall, prio, (-1), retries, held, after⟩, so, n, cp⟩ : Spv).val, .bool false]) (by simp [results, Tryd.results67, go_sem, x0, x1, x2, x3, x4, x5, x6, x7, x8, x9, x10, x11, x12]) rfl ⟨⟨⟨user, part, nodes, ⟨da, db, dc, dd⟩, wall, prio, (-1), retries, held, after⟩, so, n, cp⟩, false, rfl, rlow13 (hR2.out.low.setCell (Nat.le_refl _) _) _ _ _ _ _ _ _ _ _ _ _ _ _, hz.out, (fun h => by cases h), .inl rfl⟩
  | some m =>
    have hm := fieldN_some hf.symm
    have hm0 : 0 ≤ m := by have := betw_iff.1 hm.1; omega
    have d : decide (0 ≤ m) = true := decide_eq_true hm0
    have hz : setP kArray v ⟨user, part, nodes, ⟨da, db, dc, dd⟩, wall, prio, array, retries, held, after⟩ = some ⟨user, part, nodes, ⟨da, db, dc, dd⟩, wall, prio, m, retries, held, after⟩ := by
      show (fieldN v 1 20).map _ = some _
      rw [← hf]; rfl
    simp only [Option.getD_some] at hcn
    replace hR := Lib.hid hR; replace hcn := Lib.hid hcn; replace hf := Lib.hid hf; replace hz := Lib.hid hz; replace hx := Lib.hid hx; replace hv := Lib.hid hv; replace hm := Lib.hid hm
    go_enter Tryd.func67, Tryd.ntmps67
    go_wp2_with fail
    refine hcn.out.mono ?_
    rintro e w2 ⟨rfl, hb2⟩
    have hR2 := hR.out.on hb2
    have y0 : w2.cell? ⟨w.heap.size, 0, none⟩ = some (.string user) := blk_cell (hR2).box 0
    have y1 : w2.cell? ⟨w.heap.size, 1, none⟩ = some (.string part) := blk_cell (hR2).box 1
    have y2 : w2.cell? ⟨w.heap.size, 2, none⟩ = some (.int .i64 nodes) := blk_cell (hR2).box 2
    have y3 : w2.cell? ⟨w.heap.size, 3, none⟩ = some (.int .i64 da) := blk_cell (hR2).box 3
    have y4 : w2.cell? ⟨w.heap.size, 4, none⟩ = some (.int .i64 db) := blk_cell (hR2).box 4
    have y5 : w2.cell? ⟨w.heap.size, 5, none⟩ = some (.int .i64 dc) := blk_cell (hR2).box 5
    have y6 : w2.cell? ⟨w.heap.size, 6, none⟩ = some (.int .i64 dd) := blk_cell (hR2).box 6
    have y7 : w2.cell? ⟨w.heap.size, 7, none⟩ = some (.int .i64 wall) := blk_cell (hR2).box 7
    have y8 : w2.cell? ⟨w.heap.size, 8, none⟩ = some (.int .i64 prio) := blk_cell (hR2).box 8
    have y9 : w2.cell? ⟨w.heap.size, 9, none⟩ = some (.int .i64 array) := blk_cell (hR2).box 9
    have y10 : w2.cell? ⟨w.heap.size, 10, none⟩ = some (.int .i64 retries) := blk_cell (hR2).box 10
    have y11 : w2.cell? ⟨w.heap.size, 11, none⟩ = some (.bool held) := blk_cell (hR2).box 11
    have y12 : w2.cell? ⟨w.heap.size, 12, none⟩ = some (.slice so n cp) := blk_cell (hR2).box 12
    have x0 : w2.cell? ⟨w.heap.size + 1, 0, none⟩ = some (.string ByteArray.empty) := blk_cell (hR2).res 0
    have x1 : w2.cell? ⟨w.heap.size + 1, 1, none⟩ = some (.string ByteArray.empty) := blk_cell (hR2).res 1
    have x2 : w2.cell? ⟨w.heap.size + 1, 2, none⟩ = some (.int .i64 0) := blk_cell (hR2).res 2
    have x3 : w2.cell? ⟨w.heap.size + 1, 3, none⟩ = some (.int .i64 0) := blk_cell (hR2).res 3
    have x4 : w2.cell? ⟨w.heap.size + 1, 4, none⟩ = some (.int .i64 0) := blk_cell (hR2).res 4
    have x5 : w2.cell? ⟨w.heap.size + 1, 5, none⟩ = some (.int .i64 0) := blk_cell (hR2).res 5
    have x6 : w2.cell? ⟨w.heap.size + 1, 6, none⟩ = some (.int .i64 0) := blk_cell (hR2).res 6
    have x7 : w2.cell? ⟨w.heap.size + 1, 7, none⟩ = some (.int .i64 0) := blk_cell (hR2).res 7
    have x8 : w2.cell? ⟨w.heap.size + 1, 8, none⟩ = some (.int .i64 0) := blk_cell (hR2).res 8
    have x9 : w2.cell? ⟨w.heap.size + 1, 9, none⟩ = some (.int .i64 0) := blk_cell (hR2).res 9
    have x10 : w2.cell? ⟨w.heap.size + 1, 10, none⟩ = some (.int .i64 0) := blk_cell (hR2).res 10
    have x11 : w2.cell? ⟨w.heap.size + 1, 11, none⟩ = some (.bool false) := blk_cell (hR2).res 11
    have x12 : w2.cell? ⟨w.heap.size + 1, 12, none⟩ = some (.slice none 0 0) := blk_cell (hR2).res 12
    have fb := blk_free (hR2).box
    have fr := blk_free (hR2).res
    replace hR2 := Lib.hid hR2; replace hb2 := Lib.hid hb2
    go_wp2
    refine bodyPost_ret (v := .tuple #[(⟨⟨user, part, nodes, ⟨da, db, dc, dd⟩, wall, prio, m, retries, held, after⟩, so, n, cp⟩ : Spv).val, .bool true]) (by simp [results, Tryd.results67, go_sem, x0, x1, x2, x3, x4, x5, x6, x7, x8, x9, x10, x11, x12]) rfl ⟨⟨⟨user, part, nodes, ⟨da, db, dc, dd⟩, wall, prio, m, retries, held, after⟩, so, n, cp⟩, true, rfl, rlow13 (hR2.out.low.setCell (Nat.le_refl _) _) _ _ _ _ _ _ _ _ _ _ _ _ _, hz.out, (fun _ => ⟨hx.out.after.low (rlow13 (hR2.out.low.setCell (Nat.le_refl _) _) _ _ _ _ _ _ _ _ _ _ _ _ _), hx.out.ple, hx.out.user, hx.out.part⟩), .inl rfl⟩
set_option maxRecDepth 100000 in
set_option maxHeartbeats 3200000 in
theorem rset_retries (v : ByteArray) (x : Spv) (w : World) (hx : x.ok w) (hv : v.size ≤ maxLen) : Calls Tryd.prog 67 #[x.val, .int .i64 7, .string v] w (RsetPost x kRetries v w) := by
  obtain ⟨⟨user, part, nodes, ⟨da, db, dc, dd⟩, wall, prio, array, retries, held, after⟩, so, n, cp⟩ := x
  have hR := RsW.new w ⟨⟨user, part, nodes, ⟨da, db, dc, dd⟩, wall, prio, array, retries, held, after⟩, so, n, cp⟩
  have hcn := rnumber_any v 0 5 (BW w ⟨⟨user, part, nodes, ⟨da, db, dc, dd⟩, wall, prio, array, retries, held, after⟩, so, n, cp⟩) hv
  obtain ⟨f, hf⟩ : ∃ f, f = fieldN v 0 5 := ⟨_, rfl⟩
  rw [← hf] at hcn
  cases f with
  | none =>
    have hz : setP kRetries v ⟨user, part, nodes, ⟨da, db, dc, dd⟩, wall, prio, array, retries, held, after⟩ = none := by
      show (fieldN v 0 5).map _ = none
      rw [← hf]; rfl
    simp only [Option.getD_none] at hcn
    replace hR := Lib.hid hR; replace hcn := Lib.hid hcn; replace hf := Lib.hid hf; replace hz := Lib.hid hz; replace hx := Lib.hid hx; replace hv := Lib.hid hv
    go_enter Tryd.func67, Tryd.ntmps67
    go_wp2_with fail
    refine hcn.out.mono ?_
    rintro e w2 ⟨rfl, hb2⟩
    have hR2 := hR.out.on hb2
    have y0 : w2.cell? ⟨w.heap.size, 0, none⟩ = some (.string user) := blk_cell (hR2).box 0
    have y1 : w2.cell? ⟨w.heap.size, 1, none⟩ = some (.string part) := blk_cell (hR2).box 1
    have y2 : w2.cell? ⟨w.heap.size, 2, none⟩ = some (.int .i64 nodes) := blk_cell (hR2).box 2
    have y3 : w2.cell? ⟨w.heap.size, 3, none⟩ = some (.int .i64 da) := blk_cell (hR2).box 3
    have y4 : w2.cell? ⟨w.heap.size, 4, none⟩ = some (.int .i64 db) := blk_cell (hR2).box 4
    have y5 : w2.cell? ⟨w.heap.size, 5, none⟩ = some (.int .i64 dc) := blk_cell (hR2).box 5
    have y6 : w2.cell? ⟨w.heap.size, 6, none⟩ = some (.int .i64 dd) := blk_cell (hR2).box 6
    have y7 : w2.cell? ⟨w.heap.size, 7, none⟩ = some (.int .i64 wall) := blk_cell (hR2).box 7
    have y8 : w2.cell? ⟨w.heap.size, 8, none⟩ = some (.int .i64 prio) := blk_cell (hR2).box 8
    have y9 : w2.cell? ⟨w.heap.size, 9, none⟩ = some (.int .i64 array) := blk_cell (hR2).box 9
    have y10 : w2.cell? ⟨w.heap.size, 10, none⟩ = some (.int .i64 retries) := blk_cell (hR2).box 10
    have y11 : w2.cell? ⟨w.heap.size, 11, none⟩ = some (.bool held) := blk_cell (hR2).box 11
    have y12 : w2.cell? ⟨w.heap.size, 12, none⟩ = some (.slice so n cp) := blk_cell (hR2).box 12
    have x0 : w2.cell? ⟨w.heap.size + 1, 0, none⟩ = some (.string ByteArray.empty) := blk_cell (hR2).res 0
    have x1 : w2.cell? ⟨w.heap.size + 1, 1, none⟩ = some (.string ByteArray.empty) := blk_cell (hR2).res 1
    have x2 : w2.cell? ⟨w.heap.size + 1, 2, none⟩ = some (.int .i64 0) := blk_cell (hR2).res 2
    have x3 : w2.cell? ⟨w.heap.size + 1, 3, none⟩ = some (.int .i64 0) := blk_cell (hR2).res 3
    have x4 : w2.cell? ⟨w.heap.size + 1, 4, none⟩ = some (.int .i64 0) := blk_cell (hR2).res 4
    have x5 : w2.cell? ⟨w.heap.size + 1, 5, none⟩ = some (.int .i64 0) := blk_cell (hR2).res 5
    have x6 : w2.cell? ⟨w.heap.size + 1, 6, none⟩ = some (.int .i64 0) := blk_cell (hR2).res 6
    have x7 : w2.cell? ⟨w.heap.size + 1, 7, none⟩ = some (.int .i64 0) := blk_cell (hR2).res 7
    have x8 : w2.cell? ⟨w.heap.size + 1, 8, none⟩ = some (.int .i64 0) := blk_cell (hR2).res 8
    have x9 : w2.cell? ⟨w.heap.size + 1, 9, none⟩ = some (.int .i64 0) := blk_cell (hR2).res 9
    have x10 : w2.cell? ⟨w.heap.size + 1, 10, none⟩ = some (.int .i64 0) := blk_cell (hR2).res 10
    have x11 : w2.cell? ⟨w.heap.size + 1, 11, none⟩ = some (.bool false) := blk_cell (hR2).res 11
    have x12 : w2.cell? ⟨w.heap.size + 1, 12, none⟩ = some (.slice none 0 0) := blk_cell (hR2).res 12
    have fb := blk_free (hR2).box
    have fr := blk_free (hR2).res
    replace hR2 := Lib.hid hR2; replace hb2 := Lib.hid hb2
    go_wp2
    refine bodyPost_ret (v := .tuple #[(⟨⟨user, part, nodes, ⟨da, db, dc, dd⟩, wall, prio, array, (-1), held, after⟩, so, n, cp⟩ : Spv).val, .bool false]) (by simp [results, Tryd.results67, go_sem, x0, x1, x2, x3, x4, x5, x6, x7, x8, x9, x10, x11, x12]) rfl ⟨⟨⟨user, part, nodes, ⟨da, db, dc, dd⟩, wall, prio, array, (-1), held, after⟩, so, n, cp⟩, false, rfl, rlow13 (hR2.out.low.setCell (Nat.le_refl _) _) _ _ _ _ _ _ _ _ _ _ _ _ _, hz.out, (fun h => by cases h), .inl rfl⟩
  | some m =>
    have hm := fieldN_some hf.symm
    have hm0 : 0 ≤ m := by have := betw_iff.1 hm.1; omega
    have d : decide (0 ≤ m) = true := decide_eq_true hm0
    have hz : setP kRetries v ⟨user, part, nodes, ⟨da, db, dc, dd⟩, wall, prio, array, retries, held, after⟩ = some ⟨user, part, nodes, ⟨da, db, dc, dd⟩, wall, prio, array, m, held, after⟩ := by
      show (fieldN v 0 5).map _ = some _
      rw [← hf]; rfl
    simp only [Option.getD_some] at hcn
    replace hR := Lib.hid hR; replace hcn := Lib.hid hcn; replace hf := Lib.hid hf; replace hz := Lib.hid hz; replace hx := Lib.hid hx; replace hv := Lib.hid hv; replace hm := Lib.hid hm
    go_enter Tryd.func67, Tryd.ntmps67
    go_wp2_with fail
    refine hcn.out.mono ?_
    rintro e w2 ⟨rfl, hb2⟩
    have hR2 := hR.out.on hb2
    have y0 : w2.cell? ⟨w.heap.size, 0, none⟩ = some (.string user) := blk_cell (hR2).box 0
    have y1 : w2.cell? ⟨w.heap.size, 1, none⟩ = some (.string part) := blk_cell (hR2).box 1
    have y2 : w2.cell? ⟨w.heap.size, 2, none⟩ = some (.int .i64 nodes) := blk_cell (hR2).box 2
    have y3 : w2.cell? ⟨w.heap.size, 3, none⟩ = some (.int .i64 da) := blk_cell (hR2).box 3
    have y4 : w2.cell? ⟨w.heap.size, 4, none⟩ = some (.int .i64 db) := blk_cell (hR2).box 4
    have y5 : w2.cell? ⟨w.heap.size, 5, none⟩ = some (.int .i64 dc) := blk_cell (hR2).box 5
    have y6 : w2.cell? ⟨w.heap.size, 6, none⟩ = some (.int .i64 dd) := blk_cell (hR2).box 6
    have y7 : w2.cell? ⟨w.heap.size, 7, none⟩ = some (.int .i64 wall) := blk_cell (hR2).box 7
    have y8 : w2.cell? ⟨w.heap.size, 8, none⟩ = some (.int .i64 prio) := blk_cell (hR2).box 8
    have y9 : w2.cell? ⟨w.heap.size, 9, none⟩ = some (.int .i64 array) := blk_cell (hR2).box 9
    have y10 : w2.cell? ⟨w.heap.size, 10, none⟩ = some (.int .i64 retries) := blk_cell (hR2).box 10
    have y11 : w2.cell? ⟨w.heap.size, 11, none⟩ = some (.bool held) := blk_cell (hR2).box 11
    have y12 : w2.cell? ⟨w.heap.size, 12, none⟩ = some (.slice so n cp) := blk_cell (hR2).box 12
    have x0 : w2.cell? ⟨w.heap.size + 1, 0, none⟩ = some (.string ByteArray.empty) := blk_cell (hR2).res 0
    have x1 : w2.cell? ⟨w.heap.size + 1, 1, none⟩ = some (.string ByteArray.empty) := blk_cell (hR2).res 1
    have x2 : w2.cell? ⟨w.heap.size + 1, 2, none⟩ = some (.int .i64 0) := blk_cell (hR2).res 2
    have x3 : w2.cell? ⟨w.heap.size + 1, 3, none⟩ = some (.int .i64 0) := blk_cell (hR2).res 3
    have x4 : w2.cell? ⟨w.heap.size + 1, 4, none⟩ = some (.int .i64 0) := blk_cell (hR2).res 4
    have x5 : w2.cell? ⟨w.heap.size + 1, 5, none⟩ = some (.int .i64 0) := blk_cell (hR2).res 5
    have x6 : w2.cell? ⟨w.heap.size + 1, 6, none⟩ = some (.int .i64 0) := blk_cell (hR2).res 6
    have x7 : w2.cell? ⟨w.heap.size + 1, 7, none⟩ = some (.int .i64 0) := blk_cell (hR2).res 7
    have x8 : w2.cell? ⟨w.heap.size + 1, 8, none⟩ = some (.int .i64 0) := blk_cell (hR2).res 8
    have x9 : w2.cell? ⟨w.heap.size + 1, 9, none⟩ = some (.int .i64 0) := blk_cell (hR2).res 9
    have x10 : w2.cell? ⟨w.heap.size + 1, 10, none⟩ = some (.int .i64 0) := blk_cell (hR2).res 10
    have x11 : w2.cell? ⟨w.heap.size + 1, 11, none⟩ = some (.bool false) := blk_cell (hR2).res 11
    have x12 : w2.cell? ⟨w.heap.size + 1, 12, none⟩ = some (.slice none 0 0) := blk_cell (hR2).res 12
    have fb := blk_free (hR2).box
    have fr := blk_free (hR2).res
    replace hR2 := Lib.hid hR2; replace hb2 := Lib.hid hb2
    go_wp2
    refine bodyPost_ret (v := .tuple #[(⟨⟨user, part, nodes, ⟨da, db, dc, dd⟩, wall, prio, array, m, held, after⟩, so, n, cp⟩ : Spv).val, .bool true]) (by simp [results, Tryd.results67, go_sem, x0, x1, x2, x3, x4, x5, x6, x7, x8, x9, x10, x11, x12]) rfl ⟨⟨⟨user, part, nodes, ⟨da, db, dc, dd⟩, wall, prio, array, m, held, after⟩, so, n, cp⟩, true, rfl, rlow13 (hR2.out.low.setCell (Nat.le_refl _) _) _ _ _ _ _ _ _ _ _ _ _ _ _, hz.out, (fun _ => ⟨hx.out.after.low (rlow13 (hR2.out.low.setCell (Nat.le_refl _) _) _ _ _ _ _ _ _ _ _ _ _ _ _), hx.out.ple, hx.out.user, hx.out.part⟩), .inl rfl⟩
set_option maxRecDepth 100000 in
set_option maxHeartbeats 3200000 in
theorem rset_held (v : ByteArray) (x : Spv) (w : World) (hx : x.ok w) : Calls Tryd.prog 67 #[x.val, .int .i64 8, .string v] w (RsetPost x kHeld v w) := by
  obtain ⟨⟨user, part, nodes, ⟨da, db, dc, dd⟩, wall, prio, array, retries, held, after⟩, so, n, cp⟩ := x
  have hR := RsW.new w ⟨⟨user, part, nodes, ⟨da, db, dc, dd⟩, wall, prio, array, retries, true, after⟩, so, n, cp⟩
  have hlow : ∀ c, Below w.heap.size w ((w.alloc (.cells (⟨⟨user, part, nodes, ⟨da, db, dc, dd⟩, wall, prio, array, retries, true, after⟩, so, n, cp⟩ : Spv).cells 28 (0, 0))).alloc (.cells c 28 (0, 0))) := fun c => ((Below.refl _ _).alloc (Nat.le_refl _) _).alloc (by simp) _
  by_cases q : v = { data := #[49] }
  · have hz : setP kHeld v ⟨user, part, nodes, ⟨da, db, dc, dd⟩, wall, prio, array, retries, held, after⟩ = some ⟨user, part, nodes, ⟨da, db, dc, dd⟩, wall, prio, array, retries, true, after⟩ := if_pos q
    subst q
    replace hR := Lib.hid hR; replace hz := Lib.hid hz; replace hx := Lib.hid hx; replace hlow := Lib.hid hlow
    go_enter Tryd.func67, Tryd.ntmps67
    go_wp2
    refine bodyPost_ret (v := .tuple #[(⟨⟨user, part, nodes, ⟨da, db, dc, dd⟩, wall, prio, array, retries, true, after⟩, so, n, cp⟩ : Spv).val, .bool true]) (by simp [results, Tryd.results67, go_sem]) rfl ⟨⟨⟨user, part, nodes, ⟨da, db, dc, dd⟩, wall, prio, array, retries, true, after⟩, so, n, cp⟩, true, rfl, hlow.out _, hz.out, fun _ => ⟨hx.out.after.low (hlow.out _), hx.out.ple, hx.out.user, hx.out.part⟩, .inl rfl⟩
  · have hz : setP kHeld v ⟨user, part, nodes, ⟨da, db, dc, dd⟩, wall, prio, array, retries, held, after⟩ = none := if_neg q
    have d : (v.toList == [49]) = false := key_nel (l := [49]) q
    replace hR := Lib.hid hR; replace hz := Lib.hid hz; replace hx := Lib.hid hx; replace q := Lib.hid q; replace hlow := Lib.hid hlow
    go_enter Tryd.func67, Tryd.ntmps67
    go_wp2
    refine bodyPost_ret (v := .tuple #[(⟨⟨user, part, nodes, ⟨da, db, dc, dd⟩, wall, prio, array, retries, true, after⟩, so, n, cp⟩ : Spv).val, .bool false]) (by simp [results, Tryd.results67, go_sem]) rfl ⟨⟨⟨user, part, nodes, ⟨da, db, dc, dd⟩, wall, prio, array, retries, true, after⟩, so, n, cp⟩, false, rfl, hlow.out _, hz.out, (fun h => by cases h), .inl rfl⟩
end Go.Proofs.YteoihdkaoipocaaDoor

/- corveeref08.set: the amount, the numbers, and all of it. -/
namespace Go.Proofs.YteoihdkaoipocaaDoor
open Go.RowKit Go.Maps Go.Shelf Go.Sort

theorem low_alloc {w W : World} (h : Below w.heap.size w W) (o : Obj) : Below w.heap.size w (W.alloc o) := h.alloc h.size o
theorem setP_demR (v : ByteArray) (s : Spp) : setP kDemand v s = if (vecOf v).2 = 0 ∧ (vecOf v).1 ≠ V4.zero then some { s with dem := (vecOf v).1 } else none := rfl
theorem demOk_vec {v : ByteArray} (h : (vecOf v).2 = 0) : demOk (vecOf v).1 = decide ((vecOf v).1 ≠ V4.zero) := by unfold demOk; rw [vecOf_right h]; simp
set_option maxRecDepth 100000 in
set_option maxHeartbeats 3200000 in
theorem rset_demand (v : ByteArray) (x : Spv) (w : World) (hx : x.ok w) (hv : v.size ≤ 4294967200) : Calls Tryd.prog 67 #[x.val, .int .i64 3, .string v] w (RsetPost x kDemand v w) := by
  obtain ⟨⟨user, part, nodes, ⟨da, db, dc, dd⟩, wall, prio, array, retries, held, after⟩, so, n, cp⟩ := x
  have hR := RsW.new w ⟨⟨user, part, nodes, ⟨da, db, dc, dd⟩, wall, prio, array, retries, held, after⟩, so, n, cp⟩
  have hcv := rvread_any v (BW w ⟨⟨user, part, nodes, ⟨da, db, dc, dd⟩, wall, prio, array, retries, held, after⟩, so, n, cp⟩) hv
  have hz0 := setP_demR v ⟨user, part, nodes, ⟨da, db, dc, dd⟩, wall, prio, array, retries, held, after⟩
  have hdo := @demOk_vec v
  obtain ⟨u, hu⟩ : ∃ u, u = (vecOf v).1 := ⟨_, rfl⟩
  obtain ⟨r, hr⟩ : ∃ r, r = (vecOf v).2 := ⟨_, rfl⟩
  rw [← hu, ← hr] at hcv hz0 hdo
  obtain ⟨ua, ub, uc, ud⟩ := u
  have hcd := fun W => demand_any ⟨ua, ub, uc, ud⟩ W
  obtain ⟨q, hq⟩ : ∃ q, q = demOk ⟨ua, ub, uc, ud⟩ := ⟨_, rfl⟩
  rw [← hq] at hcd hdo
  replace hR := Lib.hid hR; replace hcv := Lib.hid hcv; replace hz0 := Lib.hid hz0; replace hdo := Lib.hid hdo; replace hu := Lib.hid hu; replace hr := Lib.hid hr; replace hq := Lib.hid hq; replace hcd := Lib.hid hcd; replace hx := Lib.hid hx; replace hv := Lib.hid hv
  go_enter Tryd.func67, Tryd.ntmps67
  go_wp2_with fail
  refine hcv.out.mono ?_
  rintro e w2 ⟨rfl, hb2⟩
  have hR2 := hR.out.on hb2
  have hq0 : RsW w ⟨⟨user, part, nodes, ⟨ua, db, dc, dd⟩, wall, prio, array, retries, held, after⟩, so, n, cp⟩ (w2.setCell ⟨w.heap.size, 3, none⟩ (.int .i64 ua)) := RsW.set hR2 3 (.int .i64 ua) rfl
  have hq1 : RsW w ⟨⟨user, part, nodes, ⟨ua, ub, dc, dd⟩, wall, prio, array, retries, held, after⟩, so, n, cp⟩ ((w2.setCell ⟨w.heap.size, 3, none⟩ (.int .i64 ua)).setCell ⟨w.heap.size, 4, none⟩ (.int .i64 ub)) := RsW.set hq0 4 (.int .i64 ub) rfl
  have hq2 : RsW w ⟨⟨user, part, nodes, ⟨ua, ub, uc, dd⟩, wall, prio, array, retries, held, after⟩, so, n, cp⟩ (((w2.setCell ⟨w.heap.size, 3, none⟩ (.int .i64 ua)).setCell ⟨w.heap.size, 4, none⟩ (.int .i64 ub)).setCell ⟨w.heap.size, 5, none⟩ (.int .i64 uc)) := RsW.set hq1 5 (.int .i64 uc) rfl
  have hq3 : RsW w ⟨⟨user, part, nodes, ⟨ua, ub, uc, ud⟩, wall, prio, array, retries, held, after⟩, so, n, cp⟩ ((((w2.setCell ⟨w.heap.size, 3, none⟩ (.int .i64 ua)).setCell ⟨w.heap.size, 4, none⟩ (.int .i64 ub)).setCell ⟨w.heap.size, 5, none⟩ (.int .i64 uc)).setCell ⟨w.heap.size, 6, none⟩ (.int .i64 ud)) := RsW.set hq2 6 (.int .i64 ud) rfl
  have hR3 : RsW w ⟨⟨user, part, nodes, ⟨ua, ub, uc, ud⟩, wall, prio, array, retries, held, after⟩, so, n, cp⟩ (((((w2.setCell ⟨w.heap.size, 3, none⟩ (.int .i64 ua)).setCell ⟨w.heap.size, 4, none⟩ (.int .i64 ub)).setCell ⟨w.heap.size, 5, none⟩ (.int .i64 uc)).setCell ⟨w.heap.size, 6, none⟩ (.int .i64 ud)).alloc (.cells #[.int .i64 ua, .int .i64 ub, .int .i64 uc, .int .i64 ud] 25 (0, 0))) := hq3.on ((Below.refl _ _).alloc (Nat.le_refl _) _)
  have a0 : w2.heap.size ≠ w.heap.size := by have := hR2.low.size; have := blk_lt hR2.box; omega
  have hlt2 := blk_lt hR2.box
  have hlt3 := blk_lt hR2.res
  have y0 : w2.cell? ⟨w.heap.size, 0, none⟩ = some (.string user) := blk_cell (hR2).box 0
  have y1 : w2.cell? ⟨w.heap.size, 1, none⟩ = some (.string part) := blk_cell (hR2).box 1
  have y2 : w2.cell? ⟨w.heap.size, 2, none⟩ = some (.int .i64 nodes) := blk_cell (hR2).box 2
  have y3 : w2.cell? ⟨w.heap.size, 3, none⟩ = some (.int .i64 da) := blk_cell (hR2).box 3
  have y4 : w2.cell? ⟨w.heap.size, 4, none⟩ = some (.int .i64 db) := blk_cell (hR2).box 4
  have y5 : w2.cell? ⟨w.heap.size, 5, none⟩ = some (.int .i64 dc) := blk_cell (hR2).box 5
  have y6 : w2.cell? ⟨w.heap.size, 6, none⟩ = some (.int .i64 dd) := blk_cell (hR2).box 6
  have y7 : w2.cell? ⟨w.heap.size, 7, none⟩ = some (.int .i64 wall) := blk_cell (hR2).box 7
  have y8 : w2.cell? ⟨w.heap.size, 8, none⟩ = some (.int .i64 prio) := blk_cell (hR2).box 8
  have y9 : w2.cell? ⟨w.heap.size, 9, none⟩ = some (.int .i64 array) := blk_cell (hR2).box 9
  have y10 : w2.cell? ⟨w.heap.size, 10, none⟩ = some (.int .i64 retries) := blk_cell (hR2).box 10
  have y11 : w2.cell? ⟨w.heap.size, 11, none⟩ = some (.bool held) := blk_cell (hR2).box 11
  have y12 : w2.cell? ⟨w.heap.size, 12, none⟩ = some (.slice so n cp) := blk_cell (hR2).box 12
  have x0 : w2.cell? ⟨w.heap.size + 1, 0, none⟩ = some (.string ByteArray.empty) := blk_cell (hR2).res 0
  have x1 : w2.cell? ⟨w.heap.size + 1, 1, none⟩ = some (.string ByteArray.empty) := blk_cell (hR2).res 1
  have x2 : w2.cell? ⟨w.heap.size + 1, 2, none⟩ = some (.int .i64 0) := blk_cell (hR2).res 2
  have x3 : w2.cell? ⟨w.heap.size + 1, 3, none⟩ = some (.int .i64 0) := blk_cell (hR2).res 3
  have x4 : w2.cell? ⟨w.heap.size + 1, 4, none⟩ = some (.int .i64 0) := blk_cell (hR2).res 4
  have x5 : w2.cell? ⟨w.heap.size + 1, 5, none⟩ = some (.int .i64 0) := blk_cell (hR2).res 5
  have x6 : w2.cell? ⟨w.heap.size + 1, 6, none⟩ = some (.int .i64 0) := blk_cell (hR2).res 6
  have x7 : w2.cell? ⟨w.heap.size + 1, 7, none⟩ = some (.int .i64 0) := blk_cell (hR2).res 7
  have x8 : w2.cell? ⟨w.heap.size + 1, 8, none⟩ = some (.int .i64 0) := blk_cell (hR2).res 8
  have x9 : w2.cell? ⟨w.heap.size + 1, 9, none⟩ = some (.int .i64 0) := blk_cell (hR2).res 9
  have x10 : w2.cell? ⟨w.heap.size + 1, 10, none⟩ = some (.int .i64 0) := blk_cell (hR2).res 10
  have x11 : w2.cell? ⟨w.heap.size + 1, 11, none⟩ = some (.bool false) := blk_cell (hR2).res 11
  have x12 : w2.cell? ⟨w.heap.size + 1, 12, none⟩ = some (.slice none 0 0) := blk_cell (hR2).res 12
  have fb := blk_free (hR2).box
  have fr := blk_free (hR2).res
  replace hR2 := Lib.hid hR2; replace hR3 := Lib.hid hR3; replace hb2 := Lib.hid hb2; replace hq0 := Lib.hid hq0; replace hq1 := Lib.hid hq1; replace hq2 := Lib.hid hq2; replace hq3 := Lib.hid hq3
  by_cases r0 : r = 0
  · have d : (r == 0) = true := by simp [r0]
    clear x0 x1 x2 x3 x4 x5 x6 x7 x8 x9 x10 x11 x12 fr
    go_wp2_with fail
    refine (hcd.out _).mono ?_
    rintro e w4 ⟨rfl, hb4⟩
    clear y0 y1 y2 y3 y4 y5 y6 y7 y8 y9 y10 y11 y12 fb
    have hR4 := hR3.out.on hb4
    have y0 : w4.cell? ⟨w.heap.size, 0, none⟩ = some (.string user) := blk_cell (hR4).box 0
    have y1 : w4.cell? ⟨w.heap.size, 1, none⟩ = some (.string part) := blk_cell (hR4).box 1
    have y2 : w4.cell? ⟨w.heap.size, 2, none⟩ = some (.int .i64 nodes) := blk_cell (hR4).box 2
    have y3 : w4.cell? ⟨w.heap.size, 3, none⟩ = some (.int .i64 ua) := blk_cell (hR4).box 3
    have y4 : w4.cell? ⟨w.heap.size, 4, none⟩ = some (.int .i64 ub) := blk_cell (hR4).box 4
    have y5 : w4.cell? ⟨w.heap.size, 5, none⟩ = some (.int .i64 uc) := blk_cell (hR4).box 5
    have y6 : w4.cell? ⟨w.heap.size, 6, none⟩ = some (.int .i64 ud) := blk_cell (hR4).box 6
    have y7 : w4.cell? ⟨w.heap.size, 7, none⟩ = some (.int .i64 wall) := blk_cell (hR4).box 7
    have y8 : w4.cell? ⟨w.heap.size, 8, none⟩ = some (.int .i64 prio) := blk_cell (hR4).box 8
    have y9 : w4.cell? ⟨w.heap.size, 9, none⟩ = some (.int .i64 array) := blk_cell (hR4).box 9
    have y10 : w4.cell? ⟨w.heap.size, 10, none⟩ = some (.int .i64 retries) := blk_cell (hR4).box 10
    have y11 : w4.cell? ⟨w.heap.size, 11, none⟩ = some (.bool held) := blk_cell (hR4).box 11
    have y12 : w4.cell? ⟨w.heap.size, 12, none⟩ = some (.slice so n cp) := blk_cell (hR4).box 12
    have x0 : w4.cell? ⟨w.heap.size + 1, 0, none⟩ = some (.string ByteArray.empty) := blk_cell (hR4).res 0
    have x1 : w4.cell? ⟨w.heap.size + 1, 1, none⟩ = some (.string ByteArray.empty) := blk_cell (hR4).res 1
    have x2 : w4.cell? ⟨w.heap.size + 1, 2, none⟩ = some (.int .i64 0) := blk_cell (hR4).res 2
    have x3 : w4.cell? ⟨w.heap.size + 1, 3, none⟩ = some (.int .i64 0) := blk_cell (hR4).res 3
    have x4 : w4.cell? ⟨w.heap.size + 1, 4, none⟩ = some (.int .i64 0) := blk_cell (hR4).res 4
    have x5 : w4.cell? ⟨w.heap.size + 1, 5, none⟩ = some (.int .i64 0) := blk_cell (hR4).res 5
    have x6 : w4.cell? ⟨w.heap.size + 1, 6, none⟩ = some (.int .i64 0) := blk_cell (hR4).res 6
    have x7 : w4.cell? ⟨w.heap.size + 1, 7, none⟩ = some (.int .i64 0) := blk_cell (hR4).res 7
    have x8 : w4.cell? ⟨w.heap.size + 1, 8, none⟩ = some (.int .i64 0) := blk_cell (hR4).res 8
    have x9 : w4.cell? ⟨w.heap.size + 1, 9, none⟩ = some (.int .i64 0) := blk_cell (hR4).res 9
    have x10 : w4.cell? ⟨w.heap.size + 1, 10, none⟩ = some (.int .i64 0) := blk_cell (hR4).res 10
    have x11 : w4.cell? ⟨w.heap.size + 1, 11, none⟩ = some (.bool false) := blk_cell (hR4).res 11
    have x12 : w4.cell? ⟨w.heap.size + 1, 12, none⟩ = some (.slice none 0 0) := blk_cell (hR4).res 12
    have fb := blk_free (hR4).box
    have fr := blk_free (hR4).res
    replace hR4 := Lib.hid hR4; replace hb4 := Lib.hid hb4
    cases q with
    | false =>
      have hz : setP kDemand v ⟨user, part, nodes, ⟨da, db, dc, dd⟩, wall, prio, array, retries, held, after⟩ = none := by
        rw [hz0.out, if_neg]
        intro c
        have := hdo.out r0
        rw [decide_eq_true c.2] at this
        cases this
      replace hz := Lib.hid hz; replace r0 := Lib.hid r0
      go_wp2
      refine bodyPost_ret (v := .tuple #[(⟨⟨user, part, nodes, ⟨ua, ub, uc, ud⟩, wall, prio, array, retries, held, after⟩, so, n, cp⟩ : Spv).val, .bool false]) (by simp [results, Tryd.results67, go_sem, x0, x1, x2, x3, x4, x5, x6, x7, x8, x9, x10, x11, x12]) rfl ⟨⟨⟨user, part, nodes, ⟨ua, ub, uc, ud⟩, wall, prio, array, retries, held, after⟩, so, n, cp⟩, false, rfl, rlow13 (hR4.out.low) _ _ _ _ _ _ _ _ _ _ _ _ _, hz.out, (fun h => by cases h), .inl rfl⟩
    | true =>
      have hz : setP kDemand v ⟨user, part, nodes, ⟨da, db, dc, dd⟩, wall, prio, array, retries, held, after⟩ = some ⟨user, part, nodes, ⟨ua, ub, uc, ud⟩, wall, prio, array, retries, held, after⟩ := by
        rw [hz0.out, if_pos ⟨r0, of_decide_eq_true (hdo.out r0).symm⟩]
      replace hz := Lib.hid hz; replace r0 := Lib.hid r0
      go_wp2
      refine bodyPost_ret (v := .tuple #[(⟨⟨user, part, nodes, ⟨ua, ub, uc, ud⟩, wall, prio, array, retries, held, after⟩, so, n, cp⟩ : Spv).val, .bool true]) (by simp [results, Tryd.results67, go_sem, x0, x1, x2, x3, x4, x5, x6, x7, x8, x9, x10, x11, x12]) rfl ⟨⟨⟨user, part, nodes, ⟨ua, ub, uc, ud⟩, wall, prio, array, retries, held, after⟩, so, n, cp⟩, true, rfl, rlow13 (hR4.out.low) _ _ _ _ _ _ _ _ _ _ _ _ _, hz.out, (fun _ => ⟨hx.out.after.low (rlow13 hR4.out.low _ _ _ _ _ _ _ _ _ _ _ _ _), hx.out.ple, hx.out.user, hx.out.part⟩), .inl rfl⟩
  · have d : (r == 0) = false := by simp [r0]
    have hz : setP kDemand v ⟨user, part, nodes, ⟨da, db, dc, dd⟩, wall, prio, array, retries, held, after⟩ = none := by
      rw [hz0.out, if_neg]
      intro c
      exact r0 c.1
    replace hz := Lib.hid hz; replace r0 := Lib.hid r0
    go_wp2
    refine bodyPost_ret (v := .tuple #[(⟨⟨user, part, nodes, ⟨ua, ub, uc, ud⟩, wall, prio, array, retries, held, after⟩, so, n, cp⟩ : Spv).val, .bool false]) (by simp [results, Tryd.results67, go_sem, x0, x1, x2, x3, x4, x5, x6, x7, x8, x9, x10, x11, x12, hlt3]) rfl ⟨⟨⟨user, part, nodes, ⟨ua, ub, uc, ud⟩, wall, prio, array, retries, held, after⟩, so, n, cp⟩, false, rfl, low_alloc (rlow13 hq3.out.low _ _ _ _ _ _ _ _ _ _ _ _ _) _, hz.out, (fun h => by cases h), .inl rfl⟩
set_option maxRecDepth 100000 in
set_option maxHeartbeats 3200000 in
theorem rset_after (v : ByteArray) (x : Spv) (w : World) (hx : x.ok w) (hv : v.size ≤ 4294967200) : Calls Tryd.prog 67 #[x.val, .int .i64 9, .string v] w (RsetPost x kAfter v w) := by
  obtain ⟨⟨user, part, nodes, ⟨da, db, dc, dd⟩, wall, prio, array, retries, held, after⟩, so, n, cp⟩ := x
  have hR := RsW.new w ⟨⟨user, part, nodes, ⟨da, db, dc, dd⟩, wall, prio, array, retries, held, after⟩, so, n, cp⟩
  have hcv := rrow_any v (BW w ⟨⟨user, part, nodes, ⟨da, db, dc, dd⟩, wall, prio, array, retries, held, after⟩, so, n, cp⟩) hv
  replace hR := Lib.hid hR; replace hcv := Lib.hid hcv; replace hx := Lib.hid hx; replace hv := Lib.hid hv
  go_enter Tryd.func67, Tryd.ntmps67
  go_wp2_with fail
  refine hcv.out.mono ?_
  rintro e w2 ⟨hb2, so2, n2, c2, l, b, rfl, hnc, hi, hfr, hrow⟩
  have hR2 := hR.out.on hb2
  have hR3 : RsW w ⟨⟨user, part, nodes, ⟨da, db, dc, dd⟩, wall, prio, array, retries, held, l⟩, so2, n2, c2⟩ (w2.setCell ⟨w.heap.size, 12, none⟩ (.slice so2 n2 c2)) := RsW.set hR2 12 _ rfl
  have hz : setP kAfter v ⟨user, part, nodes, ⟨da, db, dc, dd⟩, wall, prio, array, retries, held, after⟩ = if b = true then some ⟨user, part, nodes, ⟨da, db, dc, dd⟩, wall, prio, array, retries, held, l⟩ else none := by
    show (rowN v).map _ = _
    rw [hrow]
    cases b <;> rfl
  have hbs : (BW w ⟨⟨user, part, nodes, ⟨da, db, dc, dd⟩, wall, prio, array, retries, held, after⟩, so, n, cp⟩).heap.size = w.heap.size + 2 := by unfold BW; simp
  have hi3 : IntsAt (w2.setCell ⟨w.heap.size, 12, none⟩ (.slice so2 n2 c2)) so2 n2 l := ints_gb hi (gb_set (gb_refl w2 (some w.heap.size)) _) fun b o e c => by have := (hfr b o e).1; omega
  have hoff : ∀ b o, so2 = some ⟨b, o, none⟩ → b ≠ w.heap.size + 1 := fun b o e c => by have := (hfr b o e).1; omega
  have hfin : ∀ v0 v1 v2 v3 v4 v5 v6 v7 v8 v9 v10 v11 v12, IntsAt (((((((((((((((w2.setCell ⟨w.heap.size, 12, none⟩ (.slice so2 n2 c2)).setCell ⟨w.heap.size + 1, 0, none⟩ v0).setCell ⟨w.heap.size + 1, 1, none⟩ v1).setCell ⟨w.heap.size + 1, 2, none⟩ v2).setCell ⟨w.heap.size + 1, 3, none⟩ v3).setCell ⟨w.heap.size + 1, 4, none⟩ v4).setCell ⟨w.heap.size + 1, 5, none⟩ v5).setCell ⟨w.heap.size + 1, 6, none⟩ v6).setCell ⟨w.heap.size + 1, 7, none⟩ v7).setCell ⟨w.heap.size + 1, 8, none⟩ v8).setCell ⟨w.heap.size + 1, 9, none⟩ v9).setCell ⟨w.heap.size + 1, 10, none⟩ v10).setCell ⟨w.heap.size + 1, 11, none⟩ v11).setCell ⟨w.heap.size + 1, 12, none⟩ v12)) so2 n2 l := fun v0 v1 v2 v3 v4 v5 v6 v7 v8 v9 v10 v11 v12 => ints_gb hi3 (rgb13 w _ v0 v1 v2 v3 v4 v5 v6 v7 v8 v9 v10 v11 v12) hoff
  have y0 : w2.cell? ⟨w.heap.size, 0, none⟩ = some (.string user) := blk_cell (hR2).box 0
  have y1 : w2.cell? ⟨w.heap.size, 1, none⟩ = some (.string part) := blk_cell (hR2).box 1
  have y2 : w2.cell? ⟨w.heap.size, 2, none⟩ = some (.int .i64 nodes) := blk_cell (hR2).box 2
  have y3 : w2.cell? ⟨w.heap.size, 3, none⟩ = some (.int .i64 da) := blk_cell (hR2).box 3
  have y4 : w2.cell? ⟨w.heap.size, 4, none⟩ = some (.int .i64 db) := blk_cell (hR2).box 4
  have y5 : w2.cell? ⟨w.heap.size, 5, none⟩ = some (.int .i64 dc) := blk_cell (hR2).box 5
  have y6 : w2.cell? ⟨w.heap.size, 6, none⟩ = some (.int .i64 dd) := blk_cell (hR2).box 6
  have y7 : w2.cell? ⟨w.heap.size, 7, none⟩ = some (.int .i64 wall) := blk_cell (hR2).box 7
  have y8 : w2.cell? ⟨w.heap.size, 8, none⟩ = some (.int .i64 prio) := blk_cell (hR2).box 8
  have y9 : w2.cell? ⟨w.heap.size, 9, none⟩ = some (.int .i64 array) := blk_cell (hR2).box 9
  have y10 : w2.cell? ⟨w.heap.size, 10, none⟩ = some (.int .i64 retries) := blk_cell (hR2).box 10
  have y11 : w2.cell? ⟨w.heap.size, 11, none⟩ = some (.bool held) := blk_cell (hR2).box 11
  have y12 : w2.cell? ⟨w.heap.size, 12, none⟩ = some (.slice so n cp) := blk_cell (hR2).box 12
  have x0 : w2.cell? ⟨w.heap.size + 1, 0, none⟩ = some (.string ByteArray.empty) := blk_cell (hR2).res 0
  have x1 : w2.cell? ⟨w.heap.size + 1, 1, none⟩ = some (.string ByteArray.empty) := blk_cell (hR2).res 1
  have x2 : w2.cell? ⟨w.heap.size + 1, 2, none⟩ = some (.int .i64 0) := blk_cell (hR2).res 2
  have x3 : w2.cell? ⟨w.heap.size + 1, 3, none⟩ = some (.int .i64 0) := blk_cell (hR2).res 3
  have x4 : w2.cell? ⟨w.heap.size + 1, 4, none⟩ = some (.int .i64 0) := blk_cell (hR2).res 4
  have x5 : w2.cell? ⟨w.heap.size + 1, 5, none⟩ = some (.int .i64 0) := blk_cell (hR2).res 5
  have x6 : w2.cell? ⟨w.heap.size + 1, 6, none⟩ = some (.int .i64 0) := blk_cell (hR2).res 6
  have x7 : w2.cell? ⟨w.heap.size + 1, 7, none⟩ = some (.int .i64 0) := blk_cell (hR2).res 7
  have x8 : w2.cell? ⟨w.heap.size + 1, 8, none⟩ = some (.int .i64 0) := blk_cell (hR2).res 8
  have x9 : w2.cell? ⟨w.heap.size + 1, 9, none⟩ = some (.int .i64 0) := blk_cell (hR2).res 9
  have x10 : w2.cell? ⟨w.heap.size + 1, 10, none⟩ = some (.int .i64 0) := blk_cell (hR2).res 10
  have x11 : w2.cell? ⟨w.heap.size + 1, 11, none⟩ = some (.bool false) := blk_cell (hR2).res 11
  have x12 : w2.cell? ⟨w.heap.size + 1, 12, none⟩ = some (.slice none 0 0) := blk_cell (hR2).res 12
  have fb := blk_free (hR2).box
  have fr := blk_free (hR2).res
  have hfr3 : ∀ v0 v1 v2 v3 v4 v5 v6 v7 v8 v9 v10 v11 v12, ∀ b o, so2 = some ⟨b, o, none⟩ → w.heap.size ≤ b ∧ b < ((((((((((((((w2.setCell ⟨w.heap.size, 12, none⟩ (.slice so2 n2 c2)).setCell ⟨w.heap.size + 1, 0, none⟩ v0).setCell ⟨w.heap.size + 1, 1, none⟩ v1).setCell ⟨w.heap.size + 1, 2, none⟩ v2).setCell ⟨w.heap.size + 1, 3, none⟩ v3).setCell ⟨w.heap.size + 1, 4, none⟩ v4).setCell ⟨w.heap.size + 1, 5, none⟩ v5).setCell ⟨w.heap.size + 1, 6, none⟩ v6).setCell ⟨w.heap.size + 1, 7, none⟩ v7).setCell ⟨w.heap.size + 1, 8, none⟩ v8).setCell ⟨w.heap.size + 1, 9, none⟩ v9).setCell ⟨w.heap.size + 1, 10, none⟩ v10).setCell ⟨w.heap.size + 1, 11, none⟩ v11).setCell ⟨w.heap.size + 1, 12, none⟩ v12).heap.size := fun v0 v1 v2 v3 v4 v5 v6 v7 v8 v9 v10 v11 v12 b o e => ⟨by have := (hfr b o e).1; omega, Nat.lt_of_lt_of_le (hfr b o e).2 (Nat.le_trans (gb_set (gb_refl w2 (some w.heap.size)) (o := 12) (.slice so2 n2 c2)).size (rgb13 w (w2.setCell ⟨w.heap.size, 12, none⟩ (.slice so2 n2 c2)) v0 v1 v2 v3 v4 v5 v6 v7 v8 v9 v10 v11 v12).size)⟩
  replace hR2 := Lib.hid hR2; replace hR3 := Lib.hid hR3; replace hb2 := Lib.hid hb2; replace hnc := Lib.hid hnc; replace hi := Lib.hid hi; replace hfr := Lib.hid hfr; replace hrow := Lib.hid hrow; replace hz := Lib.hid hz; replace hi3 := Lib.hid hi3; replace hoff := Lib.hid hoff; replace hbs := Lib.hid hbs; replace hfin := Lib.hid hfin; replace hfr3 := Lib.hid hfr3
  cases b with
  | false =>
    go_wp2
    refine bodyPost_ret (v := .tuple #[(⟨⟨user, part, nodes, ⟨da, db, dc, dd⟩, wall, prio, array, retries, held, l⟩, so2, n2, c2⟩ : Spv).val, .bool false]) (by simp [results, Tryd.results67, go_sem, x0, x1, x2, x3, x4, x5, x6, x7, x8, x9, x10, x11, x12]) rfl ⟨⟨⟨user, part, nodes, ⟨da, db, dc, dd⟩, wall, prio, array, retries, held, l⟩, so2, n2, c2⟩, false, rfl, rlow13 (hR3.out.low) _ _ _ _ _ _ _ _ _ _ _ _ _, hz.out, (fun h => by cases h), .inr (hfr3.out _ _ _ _ _ _ _ _ _ _ _ _ _)⟩
  | true =>
    go_wp2
    refine bodyPost_ret (v := .tuple #[(⟨⟨user, part, nodes, ⟨da, db, dc, dd⟩, wall, prio, array, retries, held, l⟩, so2, n2, c2⟩ : Spv).val, .bool true]) (by simp [results, Tryd.results67, go_sem, x0, x1, x2, x3, x4, x5, x6, x7, x8, x9, x10, x11, x12]) rfl ⟨⟨⟨user, part, nodes, ⟨da, db, dc, dd⟩, wall, prio, array, retries, held, l⟩, so2, n2, c2⟩, true, rfl, rlow13 (hR3.out.low) _ _ _ _ _ _ _ _ _ _ _ _ _, hz.out, (fun _ => ⟨hfin.out _ _ _ _ _ _ _ _ _ _ _ _ _, hnc.out, hx.out.user, hx.out.part⟩), .inr (hfr3.out _ _ _ _ _ _ _ _ _ _ _ _ _)⟩
theorem rset_any (j : Nat) (k v : ByteArray) (x : Spv) (w : World) (hk : keysL[j]? = some k) (hx : x.ok w) (hv : v.size ≤ 4294967200) : Calls Tryd.prog 67 #[x.val, .int .i64 (j : Int), .string v] w (RsetPost x k v w) := by
  have hv2 : v.size ≤ maxLen := by have : maxLen = 9223372036854775807 := rfl; omega
  have hj : j < 10 := (List.getElem?_eq_some_iff.1 hk).1
  rcases (show j = 0 ∨ j = 1 ∨ j = 2 ∨ j = 3 ∨ j = 4 ∨ j = 5 ∨ j = 6 ∨ j = 7 ∨ j = 8 ∨ j = 9 by omega) with rfl | rfl | rfl | rfl | rfl | rfl | rfl | rfl | rfl | rfl
  all_goals
    have e := Option.some.inj hk
    subst e
  · exact rset_user v x w hx hv2
  · exact rset_part v x w hx hv2
  · exact rset_nodes v x w hx hv2
  · exact rset_demand v x w hx hv
  · exact rset_wall v x w hx hv2
  · exact rset_prio v x w hx hv2
  · exact rset_array v x w hx hv2
  · exact rset_retries v x w hx hv2
  · exact rset_held v x w hx
  · exact rset_after v x w hx hv
end Go.Proofs.YteoihdkaoipocaaDoor

/- corveeref08.Parse: what a text asks for, as the document tells it. -/
namespace Go.Proofs.YteoihdkaoipocaaDoor
open Go.RowKit Go.Maps Go.Shelf Go.Sort

def keyAt (i : Int) : ByteArray := keysL.getD i.toNat ByteArray.empty
theorem keysL_nodup : ∀ i : Nat, i < 10 → ∀ j : Nat, j < 10 → keysL[i]? = keysL[j]? → i = j := by decide
theorem keyAt_inj {i j : Int} (h0 : 0 ≤ i) (h1 : i < 10) (h2 : 0 ≤ j) (h3 : j < 10) (h : keyAt i = keyAt j) : i = j := by
  unfold keyAt at h
  have e := keysL_nodup i.toNat (by omega) j.toNat (by omega) (by
    have a : i.toNat < keysL.length := by show _ < 10; omega
    have b : j.toNat < keysL.length := by show _ < 10; omega
    rw [List.getElem?_eq_getElem a, List.getElem?_eq_getElem b]
    rw [List.getD, List.getD, List.getElem?_eq_getElem a, List.getElem?_eq_getElem b] at h
    exact congrArg some h)
  omega
/-- the numbers of the keys met -/
structure MetI (met : List ByteArray) (zs : List Int) : Prop where
  eq : met = zs.map keyAt
  bd : ∀ z, z ∈ zs → 0 ≤ z ∧ z < 10
theorem MetI.mem {met : List ByteArray} {zs : List Int} (h : MetI met zs) {j : Int} (h0 : 0 ≤ j) (h1 : j < 10) : memI zs j = memB met (keyAt j) := by
  rw [Bool.eq_iff_iff, memI_iff, memB_iff, h.eq, List.mem_map]
  constructor
  · intro hm; exact ⟨j, hm, rfl⟩
  · rintro ⟨z, hz, e⟩
    have := h.bd z hz
    rw [← keyAt_inj this.1 this.2 h0 h1 e]; exact hz
theorem MetI.snoc {met : List ByteArray} {zs : List Int} (h : MetI met zs) {j : Nat} {k : ByteArray} (hk : keysL[j]? = some k) : MetI (met ++ [k]) (zs ++ [(j : Int)]) := by
  have hj : j < 10 := (List.getElem?_eq_some_iff.1 hk).1
  refine ⟨?_, fun z hz => ?_⟩
  · rw [List.map_append, ← h.eq]
    have : keyAt (j : Int) = k := by
      unfold keyAt
      rw [List.getD, show ((j : Int)).toNat = j by omega, hk]; rfl
    simp [this]
  · rcases List.mem_append.1 hz with hz | hz
    · exact h.bd z hz
    · have : z = j := by simpa using hz
      omega

/-- what stands while the document parses -/
structure RqW (w w1 : World) (x : Spv) (zs : List Int) (ov : Value) (W : World) : Prop where
  low : w1.grownBy W (some (w.heap.size + 1))
  lo0 : Below w.heap.size w w1
  res : W.heap[w.heap.size]? = some (.cells Spv.zero.cells 28 (0, 0))
  box : W.heap[w.heap.size + 1]? = some (.cells x.cells 28 (0, 0))
  ok : x.ok W
  own : OwnI W w1.heap.size ov zs
  off : ∀ b o, x.so = some ⟨b, o, none⟩ → w1.heap.size ≤ b ∧ b < W.heap.size ∧ some b ≠ ov.ownBlock
  lt : w.heap.size + 1 < w1.heap.size
/-- a spec stored into a variable -/
abbrev set13 (W : World) (b : Nat) (x : Spv) : World := (((((((((((((W.setCell ⟨b, 0, none⟩ (.string x.pl.user)).setCell ⟨b, 1, none⟩ (.string x.pl.part)).setCell ⟨b, 2, none⟩ (.int .i64 x.pl.nodes)).setCell ⟨b, 3, none⟩ (.int .i64 x.pl.dem.a)).setCell ⟨b, 4, none⟩ (.int .i64 x.pl.dem.b)).setCell ⟨b, 5, none⟩ (.int .i64 x.pl.dem.c)).setCell ⟨b, 6, none⟩ (.int .i64 x.pl.dem.d)).setCell ⟨b, 7, none⟩ (.int .i64 x.pl.wall)).setCell ⟨b, 8, none⟩ (.int .i64 x.pl.prio)).setCell ⟨b, 9, none⟩ (.int .i64 x.pl.array)).setCell ⟨b, 10, none⟩ (.int .i64 x.pl.retries)).setCell ⟨b, 11, none⟩ (.bool x.pl.held)).setCell ⟨b, 12, none⟩ (.slice x.so x.n x.c))
theorem set13_box {W : World} {b : Nat} {x y : Spv} (h : W.heap[b]? = some (.cells y.cells 28 (0, 0))) : (set13 W b x).heap[b]? = some (.cells x.cells 28 (0, 0)) := by
  have h0 : (W.setCell ⟨b, 0, none⟩ (.string x.pl.user)).heap[b]? = some (.cells #[.string x.pl.user, .string y.pl.part, .int .i64 y.pl.nodes, .int .i64 y.pl.dem.a, .int .i64 y.pl.dem.b, .int .i64 y.pl.dem.c, .int .i64 y.pl.dem.d, .int .i64 y.pl.wall, .int .i64 y.pl.prio, .int .i64 y.pl.array, .int .i64 y.pl.retries, .bool y.pl.held, .slice y.so y.n y.c] 28 (0, 0)) := blk_set h 0 _
  have h1 : ((W.setCell ⟨b, 0, none⟩ (.string x.pl.user)).setCell ⟨b, 1, none⟩ (.string x.pl.part)).heap[b]? = some (.cells #[.string x.pl.user, .string x.pl.part, .int .i64 y.pl.nodes, .int .i64 y.pl.dem.a, .int .i64 y.pl.dem.b, .int .i64 y.pl.dem.c, .int .i64 y.pl.dem.d, .int .i64 y.pl.wall, .int .i64 y.pl.prio, .int .i64 y.pl.array, .int .i64 y.pl.retries, .bool y.pl.held, .slice y.so y.n y.c] 28 (0, 0)) := blk_set h0 1 _
  have h2 : (((W.setCell ⟨b, 0, none⟩ (.string x.pl.user)).setCell ⟨b, 1, none⟩ (.string x.pl.part)).setCell ⟨b, 2, none⟩ (.int .i64 x.pl.nodes)).heap[b]? = some (.cells #[.string x.pl.user, .string x.pl.part, .int .i64 x.pl.nodes, .int .i64 y.pl.dem.a, .int .i64 y.pl.dem.b, .int .i64 y.pl.dem.c, .int .i64 y.pl.dem.d, .int .i64 y.pl.wall, .int .i64 y.pl.prio, .int .i64 y.pl.array, .int .i64 y.pl.retries, .bool y.pl.held, .slice y.so y.n y.c] 28 (0, 0)) := blk_set h1 2 _
  have h3 : ((((W.setCell ⟨b, 0, none⟩ (.string x.pl.user)).setCell ⟨b, 1, none⟩ (.string x.pl.part)).setCell ⟨b, 2, none⟩ (.int .i64 x.pl.nodes)).setCell ⟨b, 3, none⟩ (.int .i64 x.pl.dem.a)).heap[b]? = some (.cells #[.string x.pl.user, .string x.pl.part, .int .i64 x.pl.nodes, .int .i64 x.pl.dem.a, .int .i64 y.pl.dem.b, .int .i64 y.pl.dem.c, .int .i64 y.pl.dem.d, .int .i64 y.pl.wall, .int .i64 y.pl.prio, .int .i64 y.pl.array, .int .i64 y.pl.retries, .bool y.pl.held, .slice y.so y.n y.c] 28 (0, 0)) := blk_set h2 3 _
  have h4 : (((((W.setCell ⟨b, 0, none⟩ (.string x.pl.user)).setCell ⟨b, 1, none⟩ (.string x.pl.part)).setCell ⟨b, 2, none⟩ (.int .i64 x.pl.nodes)).setCell ⟨b, 3, none⟩ (.int .i64 x.pl.dem.a)).setCell ⟨b, 4, none⟩ (.int .i64 x.pl.dem.b)).heap[b]? = some (.cells #[.string x.pl.user, .string x.pl.part, .int .i64 x.pl.nodes, .int .i64 x.pl.dem.a, .int .i64 x.pl.dem.b, .int .i64 y.pl.dem.c, .int .i64 y.pl.dem.d, .int .i64 y.pl.wall, .int .i64 y.pl.prio, .int .i64 y.pl.array, .int .i64 y.pl.retries, .bool y.pl.held, .slice y.so y.n y.c] 28 (0, 0)) := blk_set h3 4 _
  have h5 : ((((((W.setCell ⟨b, 0, none⟩ (.string x.pl.user)).setCell ⟨b, 1, none⟩ (.string x.pl.part)).setCell ⟨b, 2, none⟩ (.int .i64 x.pl.nodes)).setCell ⟨b, 3, none⟩ (.int .i64 x.pl.dem.a)).setCell ⟨b, 4, none⟩ (.int .i64 x.pl.dem.b)).setCell ⟨b, 5, none⟩ (.int .i64 x.pl.dem.c)).heap[b]? = some (.cells #[.string x.pl.user, .string x.pl.part, .int .i64 x.pl.nodes, .int .i64 x.pl.dem.a, .int .i64 x.pl.dem.b, .int .i64 x.pl.dem.c, .int .i64 y.pl.dem.d, .int .i64 y.pl.wall, .int .i64 y.pl.prio, .int .i64 y.pl.array, .int .i64 y.pl.retries, .bool y.pl.held, .slice y.so y.n y.c] 28 (0, 0)) := blk_set h4 5 _
  have h6 : (((((((W.setCell ⟨b, 0, none⟩ (.string x.pl.user)).setCell ⟨b, 1, none⟩ (.string x.pl.part)).setCell ⟨b, 2, none⟩ (.int .i64 x.pl.nodes)).setCell ⟨b, 3, none⟩ (.int .i64 x.pl.dem.a)).setCell ⟨b, 4, none⟩ (.int .i64 x.pl.dem.b)).setCell ⟨b, 5, none⟩ (.int .i64 x.pl.dem.c)).setCell ⟨b, 6, none⟩ (.int .i64 x.pl.dem.d)).heap[b]? = some (.cells #[.string x.pl.user, .string x.pl.part, .int .i64 x.pl.nodes, .int .i64 x.pl.dem.a, .int .i64 x.pl.dem.b, .int .i64 x.pl.dem.c, .int .i64 x.pl.dem.d, .int .i64 y.pl.wall, .int .i64 y.pl.prio, .int .i64 y.pl.array, .int .i64 y.pl.retries, .bool y.pl.held, .slice y.so y.n y.c] 28 (0, 0)) := blk_set h5 6 _
  have h7 : ((((((((W.setCell ⟨b, 0, none⟩ (.string x.pl.user)).setCell ⟨b, 1, none⟩ (.string x.pl.part)).setCell ⟨b, 2, none⟩ (.int .i64 x.pl.nodes)).setCell ⟨b, 3, none⟩ (.int .i64 x.pl.dem.a)).setCell ⟨b, 4, none⟩ (.int .i64 x.pl.dem.b)).setCell ⟨b, 5, none⟩ (.int .i64 x.pl.dem.c)).setCell ⟨b, 6, none⟩ (.int .i64 x.pl.dem.d)).setCell ⟨b, 7, none⟩ (.int .i64 x.pl.wall)).heap[b]? = some (.cells #[.string x.pl.user, .string x.pl.part, .int .i64 x.pl.nodes, .int .i64 x.pl.dem.a, .int .i64 x.pl.dem.b, .int .i64 x.pl.dem.c, .int .i64 x.pl.dem.d, .int .i64 x.pl.wall, .int .i64 y.pl.prio, .int .i64 y.pl.array, .int .i64 y.pl.retries, .bool y.pl.held, .slice y.so y.n y.c] 28 (0, 0)) := blk_set h6 7 _
  have h8 : (((((((((W.setCell ⟨b, 0, none⟩ (.string x.pl.user)).setCell ⟨b, 1, none⟩ (.string x.pl.part)).setCell ⟨b, 2, none⟩ (.int .i64 x.pl.nodes)).setCell ⟨b, 3, none⟩ (.int .i64 x.pl.dem.a)).setCell ⟨b, 4, none⟩ (.int .i64 x.pl.dem.b)).setCell ⟨b, 5, none⟩ (.int .i64 x.pl.dem.c)).setCell ⟨b, 6, none⟩ (.int .i64 x.pl.dem.d)).setCell ⟨b, 7, none⟩ (.int .i64 x.pl.wall)).setCell ⟨b, 8, none⟩ (.int .i64 x.pl.prio)).heap[b]? = some (.cells #[.string x.pl.user, .string x.pl.part, .int .i64 x.pl.nodes, .int .i64 x.pl.dem.a, .int .i64 x.pl.dem.b, .int .i64 x.pl.dem.c, .int .i64 x.pl.dem.d, .int .i64 x.pl.wall, .int .i64 x.pl.prio, .int .i64 y.pl.array, .int .i64 y.pl.retries, .bool y.pl.held, .slice y.so y.n y.c] 28 (0, 0)) := blk_set h7 8 _
  have h9 : ((((((((((W.setCell ⟨b, 0, none⟩ (.string x.pl.user)).setCell ⟨b, 1, none⟩ (.string x.pl.part)).setCell ⟨b, 2, none⟩ (.int .i64 x.pl.nodes)).setCell ⟨b, 3, none⟩ (.int .i64 x.pl.dem.a)).setCell ⟨b, 4, none⟩ (.int .i64 x.pl.dem.b)).setCell ⟨b, 5, none⟩ (.int .i64 x.pl.dem.c)).setCell ⟨b, 6, none⟩ (.int .i64 x.pl.dem.d)).setCell ⟨b, 7, none⟩ (.int .i64 x.pl.wall)).setCell ⟨b, 8, none⟩ (.int .i64 x.pl.prio)).setCell ⟨b, 9, none⟩ (.int .i64 x.pl.array)).heap[b]? = some (.cells #[.string x.pl.user, .string x.pl.part, .int .i64 x.pl.nodes, .int .i64 x.pl.dem.a, .int .i64 x.pl.dem.b, .int .i64 x.pl.dem.c, .int .i64 x.pl.dem.d, .int .i64 x.pl.wall, .int .i64 x.pl.prio, .int .i64 x.pl.array, .int .i64 y.pl.retries, .bool y.pl.held, .slice y.so y.n y.c] 28 (0, 0)) := blk_set h8 9 _
  have h10 : (((((((((((W.setCell ⟨b, 0, none⟩ (.string x.pl.user)).setCell ⟨b, 1, none⟩ (.string x.pl.part)).setCell ⟨b, 2, none⟩ (.int .i64 x.pl.nodes)).setCell ⟨b, 3, none⟩ (.int .i64 x.pl.dem.a)).setCell ⟨b, 4, none⟩ (.int .i64 x.pl.dem.b)).setCell ⟨b, 5, none⟩ (.int .i64 x.pl.dem.c)).setCell ⟨b, 6, none⟩ (.int .i64 x.pl.dem.d)).setCell ⟨b, 7, none⟩ (.int .i64 x.pl.wall)).setCell ⟨b, 8, none⟩ (.int .i64 x.pl.prio)).setCell ⟨b, 9, none⟩ (.int .i64 x.pl.array)).setCell ⟨b, 10, none⟩ (.int .i64 x.pl.retries)).heap[b]? = some (.cells #[.string x.pl.user, .string x.pl.part, .int .i64 x.pl.nodes, .int .i64 x.pl.dem.a, .int .i64 x.pl.dem.b, .int .i64 x.pl.dem.c, .int .i64 x.pl.dem.d, .int .i64 x.pl.wall, .int .i64 x.pl.prio, .int .i64 x.pl.array, .int .i64 x.pl.retries, .bool y.pl.held, .slice y.so y.n y.c] 28 (0, 0)) := blk_set h9 10 _
  have h11 : ((((((((((((W.setCell ⟨b, 0, none⟩ (.string x.pl.user)).setCell ⟨b, 1, none⟩ (.string x.pl.part)).setCell ⟨b, 2, none⟩ (.int .i64 x.pl.nodes)).setCell ⟨b, 3, none⟩ (.int .i64 x.pl.dem.a)).setCell ⟨b, 4, none⟩ (.int .i64 x.pl.dem.b)).setCell ⟨b, 5, none⟩ (.int .i64 x.pl.dem.c)).setCell ⟨b, 6, none⟩ (.int .i64 x.pl.dem.d)).setCell ⟨b, 7, none⟩ (.int .i64 x.pl.wall)).setCell ⟨b, 8, none⟩ (.int .i64 x.pl.prio)).setCell ⟨b, 9, none⟩ (.int .i64 x.pl.array)).setCell ⟨b, 10, none⟩ (.int .i64 x.pl.retries)).setCell ⟨b, 11, none⟩ (.bool x.pl.held)).heap[b]? = some (.cells #[.string x.pl.user, .string x.pl.part, .int .i64 x.pl.nodes, .int .i64 x.pl.dem.a, .int .i64 x.pl.dem.b, .int .i64 x.pl.dem.c, .int .i64 x.pl.dem.d, .int .i64 x.pl.wall, .int .i64 x.pl.prio, .int .i64 x.pl.array, .int .i64 x.pl.retries, .bool x.pl.held, .slice y.so y.n y.c] 28 (0, 0)) := blk_set h10 11 _
  have h12 : (((((((((((((W.setCell ⟨b, 0, none⟩ (.string x.pl.user)).setCell ⟨b, 1, none⟩ (.string x.pl.part)).setCell ⟨b, 2, none⟩ (.int .i64 x.pl.nodes)).setCell ⟨b, 3, none⟩ (.int .i64 x.pl.dem.a)).setCell ⟨b, 4, none⟩ (.int .i64 x.pl.dem.b)).setCell ⟨b, 5, none⟩ (.int .i64 x.pl.dem.c)).setCell ⟨b, 6, none⟩ (.int .i64 x.pl.dem.d)).setCell ⟨b, 7, none⟩ (.int .i64 x.pl.wall)).setCell ⟨b, 8, none⟩ (.int .i64 x.pl.prio)).setCell ⟨b, 9, none⟩ (.int .i64 x.pl.array)).setCell ⟨b, 10, none⟩ (.int .i64 x.pl.retries)).setCell ⟨b, 11, none⟩ (.bool x.pl.held)).setCell ⟨b, 12, none⟩ (.slice x.so x.n x.c)).heap[b]? = some (.cells #[.string x.pl.user, .string x.pl.part, .int .i64 x.pl.nodes, .int .i64 x.pl.dem.a, .int .i64 x.pl.dem.b, .int .i64 x.pl.dem.c, .int .i64 x.pl.dem.d, .int .i64 x.pl.wall, .int .i64 x.pl.prio, .int .i64 x.pl.array, .int .i64 x.pl.retries, .bool x.pl.held, .slice x.so x.n x.c] 28 (0, 0)) := blk_set h11 12 _
  exact h12
theorem set13_gb (W : World) (b : Nat) (x : Spv) : W.grownBy (set13 W b x) (some b) := (gb_set (gb_set (gb_set (gb_set (gb_set (gb_set (gb_set (gb_set (gb_set (gb_set (gb_set (gb_set (gb_set (gb_refl W _) _) _) _) _) _) _) _) _) _) _) _) _) _)
theorem set13_other {W : World} {b i : Nat} {x : Spv} {o : Obj} (hi : i ≠ b) (h : W.heap[i]? = some o) : (set13 W b x).heap[i]? = some o := (blk_set_other hi _ (blk_set_other hi _ (blk_set_other hi _ (blk_set_other hi _ (blk_set_other hi _ (blk_set_other hi _ (blk_set_other hi _ (blk_set_other hi _ (blk_set_other hi _ (blk_set_other hi _ (blk_set_other hi _ (blk_set_other hi _ (blk_set_other hi _ h)))))))))))))
theorem set13_size (W : World) (b : Nat) (x : Spv) : (set13 W b x).heap.size = W.heap.size := by simp [World.setCell]
theorem RqW.on {w w1 : World} {x : Spv} {zs : List Int} {ov : Value} {W W' : World} (h : RqW w w1 x zs ov W) (hb : Below W.heap.size W W') : RqW w w1 x zs ov W' :=
  ⟨gb_trans h.low (gb_below hb _), h.lo0, blk_below hb h.res (blk_lt h.res), blk_below hb h.box (blk_lt h.box), h.ok.low hb, ownI_low h.own hb, fun b o e => ⟨(h.off b o e).1, Nat.lt_of_lt_of_le (h.off b o e).2.1 hb.size, (h.off b o e).2.2⟩, h.lt⟩
theorem ownI_gb {w w' : World} {B r : Nat} {v : Value} {xs : List Int} (h : OwnI w B v xs) (hg : w.grownBy w' (some r)) (hr : r < B) : OwnI w' B v xs := by
  refine ⟨h.row.1, ?_⟩
  rcases h.row.2 with ⟨hv, h0⟩ | ⟨g, cap, cur, hv, hgb, hh, hrr⟩
  · exact .inl ⟨hv, h0⟩
  · exact .inr ⟨g, cap, cur, hv, hgb, (hg.block g (blk_lt hh) (fun c => by injection c with c; omega)).trans hh, hrr⟩
theorem RqW.store {w w1 : World} {x x' : Spv} {zs : List Int} {ov : Value} {W : World} (h : RqW w w1 x zs ov W) (hok : x'.ok W) (hoff : ∀ b o, x'.so = some ⟨b, o, none⟩ → w1.heap.size ≤ b ∧ b < W.heap.size ∧ some b ≠ ov.ownBlock) (o : Obj) : RqW w w1 x' zs ov ((set13 W (w.heap.size + 1) x').alloc o) := by
  have hg := set13_gb W (w.heap.size + 1) x'
  have h1 : RqW w w1 x' zs ov (set13 W (w.heap.size + 1) x') :=
    ⟨gb_trans h.low hg, h.lo0, set13_other (by omega) h.res, set13_box h.box, ⟨ints_gb hok.after hg (fun b o e => by have := (hoff b o e).1; have := h.lt; omega), hok.ple, hok.user, hok.part⟩, ownI_gb h.own hg h.lt, fun b o e => ⟨(hoff b o e).1, by rw [set13_size]; exact (hoff b o e).2.1, (hoff b o e).2.2⟩, h.lt⟩
  exact h1.on ((Below.refl _ _).alloc (Nat.le_refl _) o)
theorem RqW.lo {w w1 : World} {x : Spv} {zs : List Int} {ov : Value} {W : World} (h : RqW w w1 x zs ov W) : Below w.heap.size w W := below_gb h.lo0 h.low h.lo0.size (Nat.le_succ _)
theorem RqW.app {w w1 : World} {x : Spv} {zs ys : List Int} {ov ov' : Value} {W W' : World} (h : RqW w w1 x zs ov W) (hg : W.grownBy W' ov.ownBlock) (ho : OwnI W' w1.heap.size ov' ys) (hn : ov'.ownBlock = ov.ownBlock ∨ ov'.ownBlock = some W.heap.size) : RqW w w1 x ys ov' W' := by
  have hne : ∀ i, i < w1.heap.size → some i ≠ ov.ownBlock := fun i hi c => by
    have := (h.own.row.lt i c.symm).1
    omega
  have hz := h.lo0.size
  have hl := h.low.size
  refine ⟨⟨hg.os.trans h.low.os, hg.tape.trans h.low.tape, hg.output.trans h.low.output, Nat.le_trans h.low.size hg.size, fun i hi hn => (hg.block i (by omega) (hne i hi)).trans (h.low.block i hi hn)⟩, h.lo0, (hg.block _ (blk_lt h.res) (hne _ (by have := h.lt; omega))).trans h.res, (hg.block _ (blk_lt h.box) (hne _ h.lt)).trans h.box, ⟨ints_keep h.ok.after hg.size fun b o e hlt => hg.block b hlt (h.off b o e).2.2, h.ok.ple, h.ok.user, h.ok.part⟩, ho, fun b o e => ⟨(h.off b o e).1, Nat.lt_of_lt_of_le (h.off b o e).2.1 hg.size, fun c => ?_⟩, h.lt⟩
  rcases hn with hn | hn
  · rw [hn] at c; exact (h.off b o e).2.2 c
  · rw [hn] at c
    injection c with c
    have := (h.off b o e).2.1
    omega
theorem setP_else {k v : ByteArray} {s : Spp} (hk : k ∉ keysL) : setP k v s = none := by
  simp only [keysL, List.mem_cons, List.not_mem_nil, or_false, not_or] at hk
  obtain ⟨n1, n2, n3, n4, n5, n6, n7, n8, n9, n10⟩ := hk
  unfold setP
  rw [if_neg n1, if_neg n2, if_neg n3, if_neg n4, if_neg n5, if_neg n6, if_neg n7, if_neg n8, if_neg n9, if_neg n10]
theorem rparse_long (t : ByteArray) (w : World) (hlong : 4096 < t.size) : Calls Tryd.prog 23 #[.string t] w (ParsePost t w) := by
  have hz : parseOf t = (Spp.zero, 2, 0) := if_pos hlong
  have d : decide ((4096 : Int) < t.size) = true := decide_eq_true (by omega)
  have d' : decide (4096 < t.size) = true := decide_eq_true hlong
  replace hz := Lib.hid hz; replace hlong := Lib.hid hlong
  go_enter Tryd.func23, Tryd.ntmps23
  go_wp2
  refine bodyPost_ret (v := .tuple #[Spv.zero.val, .int .i64 2, .int .i64 0]) (by simp [results, Tryd.results23, go_sem, Spv.zero, Spp.zero, V4.zero]; rfl) rfl ⟨Spv.zero, by rw [hz.out], Spv.zero_ok _, by rw [hz.out]; rfl, ?_, fun b o e => by cases e⟩
  exact (Below.refl _ _).alloc (Nat.le_refl _) _
set_option maxRecDepth 100000 in
set_option maxHeartbeats 3200000 in
theorem rparse_short (t : ByteArray) (w : World) (hshort : ¬ 4096 < t.size) : Calls Tryd.prog 23 #[.string t] w (ParsePost t w) := by
  obtain ⟨i3, hi3, hz3, hz31, hz32⟩ := info_parts info3
  have hpo : parseOf t = endP (words t).length (parseW (words t) [] Spp.one) := if_neg hshort
  have d : decide ((4096 : Int) < t.size) = false := decide_eq_false (by omega)
  have d' : decide (4096 < t.size) = false := decide_eq_false hshort
  obtain ⟨W2, hW2⟩ : ∃ W2, W2 = (w.alloc (.cells Spv.zero.cells 28 (0, 0))).alloc (.cells Spv.one.cells 28 (0, 0)) := ⟨_, rfl⟩
  have hb2 : Below w.heap.size w W2 := by rw [hW2]; exact ((Below.refl _ _).alloc (Nat.le_refl _) _).alloc (by simp) _
  have hz2 : W2.heap.size = w.heap.size + 2 := by rw [hW2]; simp
  have hsp := rcut_any t 32 W2 (by omega)
  obtain ⟨L, hL⟩ : ∃ L, L = (words t).length := ⟨_, rfl⟩
  have hLm := words_many t
  rw [← hL] at hLm hpo
  rw [hW2] at hsp
  have hW2' := Lib.hid hW2
  clear hW2
  replace hpo := Lib.hid hpo; replace hb2 := Lib.hid hb2; replace hz2 := Lib.hid hz2; replace hsp := Lib.hid hsp; replace hL := Lib.hid hL; replace hi3 := Lib.hid hi3; replace hz3 := Lib.hid hz3; replace hz31 := Lib.hid hz31; replace hz32 := Lib.hid hz32
  go_enter Tryd.func23, Tryd.ntmps23
  go_wp2_with fail
  refine hsp.out.mono ?_
  rw [← hW2'.out]
  rintro e w1 ⟨so, n, c, rfl, hnc, hrow, hz9, hb1⟩
  have hnL : n = L := by rw [← hrow.len, hL.out]; rfl
  subst hnL
  have hbx : W2.heap[w.heap.size + 1]? = some (.cells Spv.one.cells 28 (0, 0)) := by rw [hW2'.out]; exact blk_at _ _ (by simp)
  have hrs : W2.heap[w.heap.size]? = some (.cells Spv.zero.cells 28 (0, 0)) := by rw [hW2'.out]; exact blk_old _ (blk_new _ _)
  have hR0 : RqW w w1 Spv.one [] (.slice none 0 0) w1 :=
    ⟨gb_refl _ _, hb2.out.trans (hb1.mono hb2.out.size), blk_below hb1 hrs (blk_lt hrs), blk_below hb1 hbx (blk_lt hbx), Spv.one_ok _, ⟨rfl, .inl ⟨rfl, rfl⟩⟩, nofun, by have := hb1.size; have := hz2.out; omega⟩
  obtain ⟨R, hR⟩ : ∃ R, R = parseW (words t) [] Spp.one := ⟨_, rfl⟩
  have hpo2 := hpo.out
  rw [← hR] at hpo2
  replace hb1 := Lib.hid hb1; replace hrow := Lib.hid hrow; replace hnc := Lib.hid hnc; replace hz9 := Lib.hid hz9; replace hbx := Lib.hid hbx; replace hrs := Lib.hid hrs; replace hR0 := Lib.hid hR0; replace hR := Lib.hid hR; replace hpo2 := Lib.hid hpo2
  go_wp2
  go_loopw [6, 8, 9, 10, 11, 12] (fun ov iv _ _ _ _ wr => ∃ (k : Nat) (met : List ByteArray) (zs : List Int) (x : Spv), iv = .int .i64 k ∧ k ≤ n ∧ Hid (met.length = k) ∧ Hid (MetI met zs) ∧ Hid (parseW ((words t).drop k) met x.pl = R) ∧ Hid (RqW w w1 x zs ov wr)) (fun _ i _ _ _ _ _ => n - (intOf i).toNat)
  case atStart => exact ⟨0, [], [], Spv.one, rfl, Nat.zero_le _, rfl, ⟨rfl, nofun⟩, hR.out.symm, hR0.out⟩
  case round =>
    obtain ⟨k, met, zs, x, rfl, hk, hml, hmi, hpw, hP⟩ := hrel
    by_cases hc : k < n
    · have hc1 : (k : Int) < n := by omega
      have hk0 : (0 : Int) ≤ (k : Int) := by omega
      have hkl : k < (words t).length := by rw [← hL.out]; exact hc
      obtain ⟨s, hs⟩ : ∃ s, (words t)[k]? = some s := ⟨_, List.getElem?_eq_getElem hkl⟩
      have hdr : (words t).drop k = s :: (words t).drop (k + 1) := by
        rw [List.drop_eq_getElem_cons hkl]
        rw [List.getElem?_eq_getElem hkl] at hs
        rw [Option.some.inj hs]
      have hsl := words_le (List.mem_of_getElem? hs)
      have hpw2 := hpw.out
      rw [hdr] at hpw2
      have hrr := strs_keep hrow.out hP.out.low.size fun b off e hlt => hP.out.low.block b hlt fun c => by
        injection c with c
        have := (hz9.out b off e).2.1
        have := hz2.out
        omega
      obtain ⟨b', off', rfl, _, c0⟩ := hrr.cell k s hs
      have hoz := (hz9.out _ _ rfl).1
      subst hoz
      simp only [Nat.zero_add] at c0
      have hck := rkey_any s wr (by omega)
      replace hs := Lib.hid hs; replace hdr := Lib.hid hdr; replace hsl := Lib.hid hsl; replace hpw2 := Lib.hid hpw2; replace hck := Lib.hid hck; replace hkl := Lib.hid hkl; replace hrr := Lib.hid hrr
      go_wp2_with fail
      refine hck.out.mono ?_
      rintro e w3 ⟨hb3, ⟨rfl, hkv⟩ | ⟨j, key, v, rfl, hkj, hkv, hvz⟩⟩
      · have hP3 := hP.out.on hb3
        have hno : stepP met x.pl s = none := by
          unfold stepP
          rcases hkv with h | ⟨kk, vv, h, hn⟩
          · rw [h]
          · rw [h]
            show (if memB met kk = true then none else (setP kk vv x.pl).map _) = none
            have : setP kk vv x.pl = none := setP_else hn
            rw [this]
            split <;> rfl
        have hz : parseOf t = (Spp.zero, 80, (k : Int) + 1) := by
          rw [hpo2.out, ← hpw2.out, parseW, hno]
          show (Spp.zero, (80 : Int), ((met.length + 1 : Nat) : Int)) = _
          rw [hml.out]; rfl
        clear c0
        replace hb3 := Lib.hid hb3; replace hkv := Lib.hid hkv; replace hno := Lib.hid hno; replace hz := Lib.hid hz; replace hP3 := Lib.hid hP3
        have cx := blk_cell (hP3.out).res
        have fx := blk_free (hP3.out).res
        have hlow := (hP3.out).lo
        replace hlow := Lib.hid hlow
        go_wp2
        refine bodyPost_ret (v := .tuple #[Spv.zero.val, .int .i64 80, .int .i64 ((k : Int) + 1)]) (by simp [results, Tryd.results23, go_sem, cx, Spv.zero, Spp.zero, V4.zero]; rfl) rfl ⟨Spv.zero, by rw [hz.out], Spv.zero_ok _, by rw [hz.out]; rfl, ?_, fun b o e => by cases e⟩
        exact low13 hlow.out _ _ _ _ _ _ _ _ _ _ _ _ _
      · have hP3 := hP.out.on hb3
        have hj : j < 10 := (List.getElem?_eq_some_iff.1 hkj).1
        have hkeyj : keyAt (j : Int) = key := by
          unfold keyAt
          rw [List.getD, show ((j : Int)).toNat = j by omega, hkj]; rfl
        obtain ⟨so2, n2, c2, e2, hnc2, hi2, _⟩ := ownI_form hP3.own
        subst e2
        have hci := in_any so2 n2 c2 zs (j : Int) w3 hi2
        rw [hmi.out.mem (by omega) (by omega), hkeyj] at hci
        obtain ⟨m, hm⟩ : ∃ m, m = memB met key := ⟨_, rfl⟩
        rw [← hm] at hci
        have dj : decide ((j : Int) < 0) = false := decide_eq_false (by omega)
        clear c0
        replace hb3 := Lib.hid hb3; replace hP3 := Lib.hid hP3; replace hkj := Lib.hid hkj; replace hkv := Lib.hid hkv; replace hvz := Lib.hid hvz; replace hkeyj := Lib.hid hkeyj; replace hnc2 := Lib.hid hnc2; replace hi2 := Lib.hid hi2; replace hci := Lib.hid hci; replace hm := Lib.hid hm
        go_wp2_with fail
        refine hci.out.mono ?_
        rintro e w4 ⟨rfl, rfl⟩
        cases m with
        | true =>
          have hno : stepP met x.pl s = none := by unfold stepP; rw [hkv.out]; simp [← hm.out]
          have hz : parseOf t = (Spp.zero, 80, (k : Int) + 1) := by
            rw [hpo2.out, ← hpw2.out, parseW, hno]
            show (Spp.zero, (80 : Int), ((met.length + 1 : Nat) : Int)) = _
            rw [hml.out]; rfl
          replace hno := Lib.hid hno; replace hz := Lib.hid hz
          have cx := blk_cell (hP3.out).res
          have fx := blk_free (hP3.out).res
          have hlow := (hP3.out).lo
          replace hlow := Lib.hid hlow
          go_wp2
          refine bodyPost_ret (v := .tuple #[Spv.zero.val, .int .i64 80, .int .i64 ((k : Int) + 1)]) (by simp [results, Tryd.results23, go_sem, cx, Spv.zero, Spp.zero, V4.zero]; rfl) rfl ⟨Spv.zero, by rw [hz.out], Spv.zero_ok _, by rw [hz.out]; rfl, ?_, fun b o e => by cases e⟩
          exact low13 hlow.out _ _ _ _ _ _ _ _ _ _ _ _ _
        | false =>
          have hst : stepP met x.pl s = (setP key v x.pl).map fun t => (key, t) := by unfold stepP; rw [hkv.out]; simp [← hm.out]
          have hset := rset_any j key v x w4 hkj.out hP3.out.ok (by have := hvz.out; have := hsl.out; omega)
          have hxo := hP3.out.off
          obtain ⟨⟨user, part, nodes, ⟨da, db, dc, dd⟩, wall, prio, array, retries, held, after⟩, so0, n0, cp0⟩ := x
          have y0 : w4.cell? ⟨w.heap.size + 1, 0, none⟩ = some (.string user) := blk_cell (hP3.out).box 0
          have y1 : w4.cell? ⟨w.heap.size + 1, 1, none⟩ = some (.string part) := blk_cell (hP3.out).box 1
          have y2 : w4.cell? ⟨w.heap.size + 1, 2, none⟩ = some (.int .i64 nodes) := blk_cell (hP3.out).box 2
          have y3 : w4.cell? ⟨w.heap.size + 1, 3, none⟩ = some (.int .i64 da) := blk_cell (hP3.out).box 3
          have y4 : w4.cell? ⟨w.heap.size + 1, 4, none⟩ = some (.int .i64 db) := blk_cell (hP3.out).box 4
          have y5 : w4.cell? ⟨w.heap.size + 1, 5, none⟩ = some (.int .i64 dc) := blk_cell (hP3.out).box 5
          have y6 : w4.cell? ⟨w.heap.size + 1, 6, none⟩ = some (.int .i64 dd) := blk_cell (hP3.out).box 6
          have y7 : w4.cell? ⟨w.heap.size + 1, 7, none⟩ = some (.int .i64 wall) := blk_cell (hP3.out).box 7
          have y8 : w4.cell? ⟨w.heap.size + 1, 8, none⟩ = some (.int .i64 prio) := blk_cell (hP3.out).box 8
          have y9 : w4.cell? ⟨w.heap.size + 1, 9, none⟩ = some (.int .i64 array) := blk_cell (hP3.out).box 9
          have y10 : w4.cell? ⟨w.heap.size + 1, 10, none⟩ = some (.int .i64 retries) := blk_cell (hP3.out).box 10
          have y11 : w4.cell? ⟨w.heap.size + 1, 11, none⟩ = some (.bool held) := blk_cell (hP3.out).box 11
          have y12 : w4.cell? ⟨w.heap.size + 1, 12, none⟩ = some (.slice so0 n0 cp0) := blk_cell (hP3.out).box 12
          replace hst := Lib.hid hst; replace hset := Lib.hid hset; replace hxo := Lib.hid hxo
          go_wp2_with fail
          refine hset.out.mono ?_
          rintro e w5 ⟨x', b, rfl, hb5, hsp5, hok5, hso5⟩
          have hP5 := hP3.out.on hb5
          clear y0 y1 y2 y3 y4 y5 y6 y7 y8 y9 y10 y11 y12
          cases b with
          | false =>
            have hno : stepP met ⟨user, part, nodes, ⟨da, db, dc, dd⟩, wall, prio, array, retries, held, after⟩ s = none := by
              have := hst.out
              rw [hsp5] at this
              exact this
            have hz : parseOf t = (Spp.zero, 80, (k : Int) + 1) := by
              rw [hpo2.out, ← hpw2.out, parseW, hno]
              show (Spp.zero, (80 : Int), ((met.length + 1 : Nat) : Int)) = _
              rw [hml.out]; rfl
            obtain ⟨⟨user', part', nodes', ⟨da', db', dc', dd'⟩, wall', prio', array', retries', held', after'⟩, so', n', cp'⟩ := x'
            have hP6 := hP5.on ((Below.refl _ _).alloc (Nat.le_refl _) (.cells (⟨⟨user', part', nodes', ⟨da', db', dc', dd'⟩, wall', prio', array', retries', held', after'⟩, so', n', cp'⟩ : Spv).cells 28 (0, 0)))
            replace hb5 := Lib.hid hb5; replace hsp5 := Lib.hid hsp5; replace hok5 := Lib.hid hok5; replace hso5 := Lib.hid hso5; replace hP5 := Lib.hid hP5; replace hno := Lib.hid hno; replace hz := Lib.hid hz; replace hP6 := Lib.hid hP6
            have cx := blk_cell (hP6.out).res
            have fx := blk_free (hP6.out).res
            have hlow := (hP6.out).lo
            replace hlow := Lib.hid hlow
            go_wp2
            refine bodyPost_ret (v := .tuple #[Spv.zero.val, .int .i64 80, .int .i64 ((k : Int) + 1)]) (by simp [results, Tryd.results23, go_sem, cx, Spv.zero, Spp.zero, V4.zero]; rfl) rfl ⟨Spv.zero, by rw [hz.out], Spv.zero_ok _, by rw [hz.out]; rfl, ?_, fun b o e => by cases e⟩
            exact low13 hlow.out _ _ _ _ _ _ _ _ _ _ _ _ _
          | true =>
            have hok := hok5 rfl
            have hpw4 : parseW ((words t).drop (k + 1)) (met ++ [key]) x'.pl = R := by
              have h := hpw2.out
              rw [parseW, hst.out, hsp5] at h
              exact h
            have hxo5 : ∀ b o, x'.so = some ⟨b, o, none⟩ → w1.heap.size ≤ b ∧ b < w5.heap.size ∧ some b ≠ (Value.slice so2 n2 c2).ownBlock := fun b o e => by
              rcases hso5 with h | h
              · have h3 := hxo.out b o (by have h2 : x'.so = so0 := h; rw [← h2]; exact e)
                exact ⟨h3.1, Nat.lt_of_lt_of_le h3.2.1 hb5.size, h3.2.2⟩
              · have h1 := h b o e
                have h2 := hP3.out.low.size
                refine ⟨by omega, h1.2, fun c => ?_⟩
                have := (hP3.out.own.row.lt b c.symm).2
                omega
            have hlt5 := blk_lt hP5.box
            have y0 : w5.cell? ⟨w.heap.size + 1, 0, none⟩ = some (.string user) := blk_cell (hP5).box 0
            have y1 : w5.cell? ⟨w.heap.size + 1, 1, none⟩ = some (.string part) := blk_cell (hP5).box 1
            have y2 : w5.cell? ⟨w.heap.size + 1, 2, none⟩ = some (.int .i64 nodes) := blk_cell (hP5).box 2
            have y3 : w5.cell? ⟨w.heap.size + 1, 3, none⟩ = some (.int .i64 da) := blk_cell (hP5).box 3
            have y4 : w5.cell? ⟨w.heap.size + 1, 4, none⟩ = some (.int .i64 db) := blk_cell (hP5).box 4
            have y5 : w5.cell? ⟨w.heap.size + 1, 5, none⟩ = some (.int .i64 dc) := blk_cell (hP5).box 5
            have y6 : w5.cell? ⟨w.heap.size + 1, 6, none⟩ = some (.int .i64 dd) := blk_cell (hP5).box 6
            have y7 : w5.cell? ⟨w.heap.size + 1, 7, none⟩ = some (.int .i64 wall) := blk_cell (hP5).box 7
            have y8 : w5.cell? ⟨w.heap.size + 1, 8, none⟩ = some (.int .i64 prio) := blk_cell (hP5).box 8
            have y9 : w5.cell? ⟨w.heap.size + 1, 9, none⟩ = some (.int .i64 array) := blk_cell (hP5).box 9
            have y10 : w5.cell? ⟨w.heap.size + 1, 10, none⟩ = some (.int .i64 retries) := blk_cell (hP5).box 10
            have y11 : w5.cell? ⟨w.heap.size + 1, 11, none⟩ = some (.bool held) := blk_cell (hP5).box 11
            have y12 : w5.cell? ⟨w.heap.size + 1, 12, none⟩ = some (.slice so0 n0 cp0) := blk_cell (hP5).box 12
            have fx := blk_free hP5.box
            obtain ⟨⟨user', part', nodes', ⟨da', db', dc', dd'⟩, wall', prio', array', retries', held', after'⟩, so', n', cp'⟩ := x'
            replace hb5 := Lib.hid hb5; replace hsp5 := Lib.hid hsp5; replace hok5 := Lib.hid hok5; replace hso5 := Lib.hid hso5; replace hP5 := Lib.hid hP5; replace hok := Lib.hid hok; replace hpw4 := Lib.hid hpw4; replace hxo5 := Lib.hid hxo5
            obtain ⟨W6, hW6⟩ : ∃ W6, W6 = (((((((((((((w5.setCell ⟨w.heap.size + 1, 0, none⟩ (Value.string user')).setCell ⟨w.heap.size + 1, 1, none⟩ (Value.string part')).setCell ⟨w.heap.size + 1, 2, none⟩ (Value.int IntKind.i64 nodes')).setCell ⟨w.heap.size + 1, 3, none⟩ (Value.int IntKind.i64 da')).setCell ⟨w.heap.size + 1, 4, none⟩ (Value.int IntKind.i64 db')).setCell ⟨w.heap.size + 1, 5, none⟩ (Value.int IntKind.i64 dc')).setCell ⟨w.heap.size + 1, 6, none⟩ (Value.int IntKind.i64 dd')).setCell ⟨w.heap.size + 1, 7, none⟩ (Value.int IntKind.i64 wall')).setCell ⟨w.heap.size + 1, 8, none⟩ (Value.int IntKind.i64 prio')).setCell ⟨w.heap.size + 1, 9, none⟩ (Value.int IntKind.i64 array')).setCell ⟨w.heap.size + 1, 10, none⟩ (Value.int IntKind.i64 retries')).setCell ⟨w.heap.size + 1, 11, none⟩ (Value.bool held')).setCell ⟨w.heap.size + 1, 12, none⟩ (Value.slice so' n' cp')).alloc (Obj.cells #[Value.string user', Value.string part', Value.int IntKind.i64 nodes', Value.int IntKind.i64 da', Value.int IntKind.i64 db', Value.int IntKind.i64 dc', Value.int IntKind.i64 dd', Value.int IntKind.i64 wall', Value.int IntKind.i64 prio', Value.int IntKind.i64 array', Value.int IntKind.i64 retries', Value.bool held', Value.slice so' n' cp'] 28 (0, 0)) := ⟨_, rfl⟩
            have hP6 : RqW w w1 ⟨⟨user', part', nodes', ⟨da', db', dc', dd'⟩, wall', prio', array', retries', held', after'⟩, so', n', cp'⟩ zs (.slice so2 n2 c2) W6 := by
              rw [hW6]
              exact RqW.store (x' := ⟨⟨user', part', nodes', ⟨da', db', dc', dd'⟩, wall', prio', array', retries', held', after'⟩, so', n', cp'⟩) hP5.out hok.out hxo5.out _
            go_upto_region 16 with fail
            rw [← hW6]
            have hW6' := Lib.hid hW6
            clear hW6
            obtain ⟨Lz, hLz⟩ : ∃ Lz, Lz = zs.length := ⟨_, rfl⟩
            have hLk : Lz ≤ 4097 := by
              have h1 := hml.out
              rw [hmi.out.eq, List.length_map] at h1
              omega
            have hownA : (W6.alloc (.cells #[.int .i64 (j : Int)] 3 (0, 0))).ownsRow w1.heap.size 3 1 (.slice so2 n2 c2) Lz (intsV zs) := by rw [hLz]; exact hP6.own.row.alloc (.cells #[.int .i64 (j : Int)] 3 (0, 0))
            have hnews := int_new W6 (j : Int)
            have hone1 : ∀ u ∈ ([.int .i64 (j : Int)] : List Value), u.oneCell' = true := by simp [Value.oneCell']
            have h63 := maxLen_ge (n := Lz) (by omega)
            have hby : (Lz + 1) * 8 ≤ 140737488355328 := by omega
            have hbas : w1.heap.size ≤ (W6.alloc (.cells #[.int .i64 (j : Int)] 3 (0, 0))).heap.size := by have := hP6.low.size; simp; omega
            replace hP6 := Lib.hid hP6; replace hLz := Lib.hid hLz; replace hownA := Lib.hid hownA; replace hnews := Lib.hid hnews; replace hone1 := Lib.hid hone1; replace h63 := Lib.hid h63; replace hby := Lib.hid hby; replace hbas := Lib.hid hbas
            go_wp2_with (at_builtin; refine wpList_append_own_at _ rfl _ _ 26 rfl w1.heap.size 3 i3 _ 1 8 Tryd.underlying26 hi3.out hz3.out hz31.out hz32.out rfl (by decide) _ Lz _ rfl hownA.out ⟨W6.heap.size, 0, none⟩ 1 1 [.int .i64 (j : Int)] rfl rfl hnews.out hone1.out h63.out hby.out hbas.out ?_; intro v1 w7 hown7 hgrow _ hat7; obtain ⟨g7, cap1, rfl⟩ := Joins.ownsRow_form hown7 (by omega); replace hown7 := Lib.hid hown7; replace hgrow := Lib.hid hgrow; replace hat7 := Lib.hid hat7)
            have hO7 : OwnI w7 w1.heap.size (.slice (some ⟨g7, 0, none⟩) (Lz + 1) cap1) (zs ++ [(j : Int)]) := by
              refine ⟨?_⟩
              rw [List.length_append, ← hLz.out]
              simpa [intsV] using hown7.out
            have hP7 : RqW w w1 ⟨⟨user', part', nodes', ⟨da', db', dc', dd'⟩, wall', prio', array', retries', held', after'⟩, so', n', cp'⟩ (zs ++ [(j : Int)]) (.slice (some ⟨g7, 0, none⟩) (Lz + 1) cap1) w7 := (hP6.out.on ((Below.refl _ _).alloc (Nat.le_refl _) _)).app hgrow.out hO7 hat7.out
            have hml7 : (met ++ [key]).length = k + 1 := by rw [List.length_append, hml.out]; rfl
            have hmi7 := hmi.out.snoc hkj.out
            replace hO7 := Lib.hid hO7; replace hP7 := Lib.hid hP7; replace hml7 := Lib.hid hml7; replace hmi7 := Lib.hid hmi7
            go_wp2
            go_roundw
            case rel => exact ⟨k + 1, met ++ [key], zs ++ [(j : Int)], ⟨⟨user', part', nodes', ⟨da', db', dc', dd'⟩, wall', prio', array', retries', held', after'⟩, so', n', cp'⟩, by go_num, by omega, hml7.out, hmi7.out, hpw4.out, hP7.out⟩
            case measure => simp [intOf]; omega
    · have hc1 : ¬ (k : Int) < n := by omega
      have hkn : k = n := by omega
      subst hkn
      have hpw2 := hpw.out
      rw [List.drop_of_length_le (by rw [← hL.out]; omega)] at hpw2
      have hend : R = .inl (met, x.pl) := hpw2.symm
      have hz5 : parseOf t = if five met = true then (x.pl, 0, 0) else (Spp.zero, 80, ((k + 1 : Nat) : Int)) := by rw [hpo2.out, hend]; rfl
      obtain ⟨so2, n2, c2, e2, hnc2, hi2, _⟩ := ownI_form hP.out.own
      subst e2
      obtain ⟨wo, hwo⟩ : ∃ wo : World, wo = wr := ⟨_, rfl⟩
      subst hwo
      have hlen7 : ∀ ty w, (Builtin.len_ #[36] ty #[.slice so k c]).run Tryd.prog w = .ok (.int .i64 (k : Int)) w := fun ty w => by simp [go_sem, Tryd.underlying36]
      replace hpw2 := Lib.hid hpw2; replace hend := Lib.hid hend; replace hz5 := Lib.hid hz5; replace hnc2 := Lib.hid hnc2; replace hi2 := Lib.hid hi2
      go_wp2
      go_loopw [13] (fun i wq => ∃ q : Nat, i = .int .i64 q ∧ q ≤ 5 ∧ Hid (∀ m : Nat, m < q → memB met (keyAt (m : Int)) = true) ∧ Hid (wq = wo)) (fun i _ => 5 - (intOf i).toNat)
      case atStart => exact ⟨0, rfl, by omega, (fun m h => absurd h (Nat.not_lt_zero _)), rfl⟩
      case round =>
        obtain ⟨q, rfl, hq, hall, hw⟩ := hrel
        have hw2 := hw.out.symm
        subst hw2
        by_cases hq5 : q < 5
        · have hq1 : (q : Int) < 5 := by omega
          have hci := in_any so2 n2 c2 (zs) (q : Int) wo hi2.out
          rw [hmi.out.mem (by omega) (by omega)] at hci
          obtain ⟨m, hm⟩ : ∃ m, m = memB met (keyAt (q : Int)) := ⟨_, rfl⟩
          rw [← hm] at hci
          replace hci := Lib.hid hci; replace hm := Lib.hid hm
          go_wp2_with fail
          refine hci.out.mono ?_
          rintro e w4 ⟨rfl, rfl⟩
          cases m with
          | true =>
            have hall2 : ∀ m : Nat, m < q + 1 → memB met (keyAt (m : Int)) = true := fun m h => by
              by_cases c : m = q
              · rw [c]; exact hm.out.symm
              · exact hall.out m (by omega)
            replace hall2 := Lib.hid hall2
            go_wp2
            go_roundw
            case rel => exact ⟨q + 1, by go_num, by omega, hall2.out, trivial⟩
            case measure => simp [intOf]; omega
          | false =>
            have hf : five met = false := by
              rw [Bool.eq_false_iff]
              intro h
              simp only [five, Bool.and_eq_true] at h
              obtain ⟨⟨⟨⟨h1, h2⟩, h3⟩, h4⟩, h5⟩ := h
              have hmo := hm.out
              rcases (show q = 0 ∨ q = 1 ∨ q = 2 ∨ q = 3 ∨ q = 4 by omega) with rfl | rfl | rfl | rfl | rfl
              · exact absurd (hmo.trans h1) (by decide)
              · exact absurd (hmo.trans h2) (by decide)
              · exact absurd (hmo.trans h3) (by decide)
              · exact absurd (hmo.trans h4) (by decide)
              · exact absurd (hmo.trans h5) (by decide)
            have hz : parseOf t = (Spp.zero, 80, (k : Int) + 1) := by rw [hz5.out, hf]; rfl
            replace hf := Lib.hid hf; replace hz := Lib.hid hz
            have cx := blk_cell (hP.out).res
            have fx := blk_free (hP.out).res
            have hlow := (hP.out).lo
            replace hlow := Lib.hid hlow
            go_wp2
            refine bodyPost_ret (v := .tuple #[Spv.zero.val, .int .i64 80, .int .i64 ((k : Int) + 1)]) (by simp [results, Tryd.results23, go_sem, cx, Spv.zero, Spp.zero, V4.zero]; rfl) rfl ⟨Spv.zero, by rw [hz.out], Spv.zero_ok _, by rw [hz.out]; rfl, ?_, fun b o e => by cases e⟩
            exact low13 hlow.out _ _ _ _ _ _ _ _ _ _ _ _ _
        · have hq1 : ¬ (q : Int) < 5 := by omega
          have hqe : q = 5 := by omega
          have hf : five met = true := by
            have h := hall.out
            rw [hqe] at h
            simp only [five, Bool.and_eq_true]
            exact ⟨⟨⟨⟨h 0 (by omega), h 1 (by omega)⟩, h 2 (by omega)⟩, h 3 (by omega)⟩, h 4 (by omega)⟩
          have hz : parseOf t = (x.pl, 0, 0) := by rw [hz5.out, hf]; rfl
          have hok := hP.out.ok
          have hoff := hP.out.off
          have hlow := hP.out.lo
          have hlt9 := hP.out.lt
          have cx := blk_cell hP.out.res
          have fx := blk_free hP.out.res
          obtain ⟨⟨user, part, nodes, ⟨da, db, dc, dd⟩, wall, prio, array, retries, held, after⟩, so0, n0, cp0⟩ := x
          have y0 : wo.cell? ⟨w.heap.size + 1, 0, none⟩ = some (.string user) := blk_cell (hP.out).box 0
          have y1 : wo.cell? ⟨w.heap.size + 1, 1, none⟩ = some (.string part) := blk_cell (hP.out).box 1
          have y2 : wo.cell? ⟨w.heap.size + 1, 2, none⟩ = some (.int .i64 nodes) := blk_cell (hP.out).box 2
          have y3 : wo.cell? ⟨w.heap.size + 1, 3, none⟩ = some (.int .i64 da) := blk_cell (hP.out).box 3
          have y4 : wo.cell? ⟨w.heap.size + 1, 4, none⟩ = some (.int .i64 db) := blk_cell (hP.out).box 4
          have y5 : wo.cell? ⟨w.heap.size + 1, 5, none⟩ = some (.int .i64 dc) := blk_cell (hP.out).box 5
          have y6 : wo.cell? ⟨w.heap.size + 1, 6, none⟩ = some (.int .i64 dd) := blk_cell (hP.out).box 6
          have y7 : wo.cell? ⟨w.heap.size + 1, 7, none⟩ = some (.int .i64 wall) := blk_cell (hP.out).box 7
          have y8 : wo.cell? ⟨w.heap.size + 1, 8, none⟩ = some (.int .i64 prio) := blk_cell (hP.out).box 8
          have y9 : wo.cell? ⟨w.heap.size + 1, 9, none⟩ = some (.int .i64 array) := blk_cell (hP.out).box 9
          have y10 : wo.cell? ⟨w.heap.size + 1, 10, none⟩ = some (.int .i64 retries) := blk_cell (hP.out).box 10
          have y11 : wo.cell? ⟨w.heap.size + 1, 11, none⟩ = some (.bool held) := blk_cell (hP.out).box 11
          have y12 : wo.cell? ⟨w.heap.size + 1, 12, none⟩ = some (.slice so0 n0 cp0) := blk_cell (hP.out).box 12
          have x0 : wo.cell? ⟨w.heap.size, 0, none⟩ = some (.string ByteArray.empty) := cx 0
          have x1 : wo.cell? ⟨w.heap.size, 1, none⟩ = some (.string ByteArray.empty) := cx 1
          have x2 : wo.cell? ⟨w.heap.size, 2, none⟩ = some (.int .i64 0) := cx 2
          have x3 : wo.cell? ⟨w.heap.size, 3, none⟩ = some (.int .i64 0) := cx 3
          have x4 : wo.cell? ⟨w.heap.size, 4, none⟩ = some (.int .i64 0) := cx 4
          have x5 : wo.cell? ⟨w.heap.size, 5, none⟩ = some (.int .i64 0) := cx 5
          have x6 : wo.cell? ⟨w.heap.size, 6, none⟩ = some (.int .i64 0) := cx 6
          have x7 : wo.cell? ⟨w.heap.size, 7, none⟩ = some (.int .i64 0) := cx 7
          have x8 : wo.cell? ⟨w.heap.size, 8, none⟩ = some (.int .i64 0) := cx 8
          have x9 : wo.cell? ⟨w.heap.size, 9, none⟩ = some (.int .i64 0) := cx 9
          have x10 : wo.cell? ⟨w.heap.size, 10, none⟩ = some (.int .i64 0) := cx 10
          have x11 : wo.cell? ⟨w.heap.size, 11, none⟩ = some (.bool false) := cx 11
          have x12 : wo.cell? ⟨w.heap.size, 12, none⟩ = some (.slice none 0 0) := cx 12
          clear cx
          replace hz := Lib.hid hz; replace hok := Lib.hid hok; replace hoff := Lib.hid hoff; replace hlow := Lib.hid hlow; replace hf := Lib.hid hf; replace hqe := Lib.hid hqe; replace hlt9 := Lib.hid hlt9
          go_wp2
          refine bodyPost_ret (v := .tuple #[(⟨⟨user, part, nodes, ⟨da, db, dc, dd⟩, wall, prio, array, retries, held, after⟩, so0, n0, cp0⟩ : Spv).val, .int .i64 0, .int .i64 0]) (by simp [results, Tryd.results23, go_sem, x0, x1, x2, x3, x4, x5, x6, x7, x8, x9, x10, x11, x12]) rfl ⟨⟨⟨user, part, nodes, ⟨da, db, dc, dd⟩, wall, prio, array, retries, held, after⟩, so0, n0, cp0⟩, by rw [hz.out], ⟨ints_gb hok.out.after (gb13 w wo _ _ _ _ _ _ _ _ _ _ _ _ _) (fun b o e => by have := (hoff.out b o e).1; have := hlt9.out; omega), hok.out.ple, hok.out.user, hok.out.part⟩, by rw [hz.out], low13 hlow.out _ _ _ _ _ _ _ _ _ _ _ _ _, fun b o e => by have := (hoff.out b o e).1; have := hlt9.out; omega⟩
theorem rparse_any (t : ByteArray) (w : World) : Calls Tryd.prog 23 #[.string t] w (ParsePost t w) := by
  by_cases h : 4096 < t.size
  · exact rparse_long t w h
  · exact rparse_short t w h
end Go.Proofs.YteoihdkaoipocaaDoor

/- corveeref08.Same; spec.Need; corveelaw08.awake. -/
namespace Go.Proofs.YteoihdkaoipocaaDoor
open Go.RowKit Go.Maps Go.Shelf Go.Sort

theorem str_dec (p q : ByteArray) : (p.toList == q.toList) = decide (p = q) := by
  by_cases h : p = q
  · rw [str_eq h, decide_eq_true h]
  · rw [str_ne h, decide_eq_false h]
theorem int_dec (a b : Int) : (a == b) = decide (a = b) := by
  by_cases h : a = b <;> simp [h]
theorem bool_dec (a b : Bool) : (a == b) = decide (a = b) := by cases a <;> cases b <;> rfl
theorem spp_dec (a b : Spp) : decide (a = b) = (decide (a.after = b.after) && decide (a.user = b.user) && decide (a.part = b.part) && decide (a.nodes = b.nodes) && decide (a.dem = b.dem) && decide (a.wall = b.wall) && decide (a.prio = b.prio) && decide (a.array = b.array) && decide (a.retries = b.retries) && decide (a.held = b.held)) := by
  obtain ⟨a1, a2, a3, a4, a5, a6, a7, a8, a9, a10⟩ := a
  obtain ⟨b1, b2, b3, b4, b5, b6, b7, b8, b9, b10⟩ := b
  rw [Bool.eq_iff_iff]
  simp only [Bool.and_eq_true, decide_eq_true_eq, Spp.mk.injEq]
  constructor
  · rintro ⟨h1, h2, h3, h4, h5, h6, h7, h8, h9, h10⟩
    exact ⟨⟨⟨⟨⟨⟨⟨⟨⟨h10, h1⟩, h2⟩, h3⟩, h4⟩, h5⟩, h6⟩, h7⟩, h8⟩, h9⟩
  · rintro ⟨⟨⟨⟨⟨⟨⟨⟨⟨h10, h1⟩, h2⟩, h3⟩, h4⟩, h5⟩, h6⟩, h7⟩, h8⟩, h9⟩
    exact ⟨h1, h2, h3, h4, h5, h6, h7, h8, h9, h10⟩
def SamePost (x y : Spv) (w : World) (e : Ending) (w' : World) : Prop := e = .returned (.bool (decide (x.pl = y.pl))) ∧ Below w.heap.size w w'
set_option maxRecDepth 100000 in
set_option maxHeartbeats 3200000 in
theorem same_any8 (x y : Spv) (w : World) (hx : x.ok w) (hy : y.ok w) : Calls Tryd.prog 24 #[x.val, y.val] w (SamePost x y w) := by
  obtain ⟨W0, hW0⟩ : ∃ W0, W0 = (w.alloc (.cells x.cells 28 (0, 0))).alloc (.cells y.cells 28 (0, 0)) := ⟨_, rfl⟩
  have hb0 : Below w.heap.size w W0 := by rw [hW0]; exact ((Below.refl _ _).alloc (Nat.le_refl _) _).alloc (by simp) _
  have hx0 : W0.heap[w.heap.size]? = some (.cells x.cells 28 (0, 0)) := by rw [hW0]; exact blk_old _ (blk_new _ _)
  have hy0 : W0.heap[w.heap.size + 1]? = some (.cells y.cells 28 (0, 0)) := by rw [hW0]; exact blk_at _ _ (by simp)
  have hct := samei_any x.so y.so x.n y.n x.c y.c x.pl.after y.pl.after W0 (hx.low hb0).after (hy.low hb0).after
  have hzz := spp_dec x.pl y.pl
  obtain ⟨⟨user, part, nodes, ⟨da, db, dc, dd⟩, wall, prio, array, retries, held, after⟩, so, n, cp⟩ := x
  obtain ⟨⟨user', part', nodes', ⟨da', db', dc', dd'⟩, wall', prio', array', retries', held', after'⟩, so', n', cp'⟩ := y
  have e1 := str_dec user user'
  have e2 := str_dec part part'
  have e3 := int_dec nodes nodes'
  have e4 := eq25 ⟨da, db, dc, dd⟩ ⟨da', db', dc', dd'⟩
  have e5 := int_dec wall wall'
  have e6 := int_dec prio prio'
  have e7 := int_dec array array'
  have e8 := int_dec retries retries'
  have e9 := bool_dec held held'
  obtain ⟨q0, h0⟩ : ∃ q, q = decide (after = after') := ⟨_, rfl⟩
  obtain ⟨q1, h1⟩ : ∃ q, q = decide (user = user') := ⟨_, rfl⟩
  obtain ⟨q2, h2⟩ : ∃ q, q = decide (part = part') := ⟨_, rfl⟩
  obtain ⟨q3, h3⟩ : ∃ q, q = decide (nodes = nodes') := ⟨_, rfl⟩
  obtain ⟨q4, h4⟩ : ∃ q, q = decide ((⟨da, db, dc, dd⟩ : V4) = ⟨da', db', dc', dd'⟩) := ⟨_, rfl⟩
  obtain ⟨q5, h5⟩ : ∃ q, q = decide (wall = wall') := ⟨_, rfl⟩
  obtain ⟨q6, h6⟩ : ∃ q, q = decide (prio = prio') := ⟨_, rfl⟩
  obtain ⟨q7, h7⟩ : ∃ q, q = decide (array = array') := ⟨_, rfl⟩
  obtain ⟨q8, h8⟩ : ∃ q, q = decide (retries = retries') := ⟨_, rfl⟩
  obtain ⟨q9, h9⟩ : ∃ q, q = decide (held = held') := ⟨_, rfl⟩
  unfold SameiPost at hct
  rw [← h0] at hct
  rw [← h1] at e1
  rw [← h2] at e2
  rw [← h3] at e3
  rw [← h4] at e4
  rw [← h5] at e5
  rw [← h6] at e6
  rw [← h7] at e7
  rw [← h8] at e8
  rw [← h9] at e9
  have hz : decide ((⟨user, part, nodes, ⟨da, db, dc, dd⟩, wall, prio, array, retries, held, after⟩ : Spp) = ⟨user', part', nodes', ⟨da', db', dc', dd'⟩, wall', prio', array', retries', held', after'⟩) = (q0 && q1 && q2 && q3 && q4 && q5 && q6 && q7 && q8 && q9) := by
    rw [hzz]
    show (decide (after = after') && decide (user = user') && decide (part = part') && decide (nodes = nodes') && decide ((⟨da, db, dc, dd⟩ : V4) = ⟨da', db', dc', dd'⟩) && decide (wall = wall') && decide (prio = prio') && decide (array = array') && decide (retries = retries') && decide (held = held')) = _
    rw [← h0, ← h1, ← h2, ← h3, ← h4, ← h5, ← h6, ← h7, ← h8, ← h9]
  unfold SamePost
  show Calls _ _ _ _ fun e w' => e = .returned (.bool (decide ((⟨user, part, nodes, ⟨da, db, dc, dd⟩, wall, prio, array, retries, held, after⟩ : Spp) = ⟨user', part', nodes', ⟨da', db', dc', dd'⟩, wall', prio', array', retries', held', after'⟩))) ∧ Below w.heap.size w w'
  rw [hz]
  clear hzz h0 h1 h2 h3 h4 h5 h6 h7 h8 h9 hz
  have hz : True := trivial
  rw [hW0] at hct
  have hW0' := Lib.hid hW0
  clear hW0
  have e4' := Lib.hid e4
  clear e4
  replace hb0 := Lib.hid hb0; replace hx0 := Lib.hid hx0; replace hy0 := Lib.hid hy0; replace hct := Lib.hid hct; replace hx := Lib.hid hx; replace hy := Lib.hid hy; replace e1 := Lib.hid e1; replace e2 := Lib.hid e2; replace e3 := Lib.hid e3; replace e5 := Lib.hid e5; replace e6 := Lib.hid e6; replace e7 := Lib.hid e7; replace e8 := Lib.hid e8; replace e9 := Lib.hid e9
  go_enter Tryd.func24, Tryd.ntmps24
  go_wp2_with fail
  refine hct.out.mono ?_
  rintro e w1 ⟨rfl, hb1⟩
  rw [← hW0'.out] at hb1
  have hx1 := blk_below hb1 hx0.out (blk_lt hx0.out)
  have hy1 := blk_below hb1 hy0.out (blk_lt hy0.out)
  have hlow : Below w.heap.size w w1 := hb0.out.trans (hb1.mono hb0.out.size)
  have y0 : w1.cell? ⟨w.heap.size, 0, none⟩ = some (.string user) := blk_cell hx1 0
  have y1 : w1.cell? ⟨w.heap.size, 1, none⟩ = some (.string part) := blk_cell hx1 1
  have y2 : w1.cell? ⟨w.heap.size, 2, none⟩ = some (.int .i64 nodes) := blk_cell hx1 2
  have y3 : w1.cell? ⟨w.heap.size, 3, none⟩ = some (.int .i64 da) := blk_cell hx1 3
  have y4 : w1.cell? ⟨w.heap.size, 4, none⟩ = some (.int .i64 db) := blk_cell hx1 4
  have y5 : w1.cell? ⟨w.heap.size, 5, none⟩ = some (.int .i64 dc) := blk_cell hx1 5
  have y6 : w1.cell? ⟨w.heap.size, 6, none⟩ = some (.int .i64 dd) := blk_cell hx1 6
  have y7 : w1.cell? ⟨w.heap.size, 7, none⟩ = some (.int .i64 wall) := blk_cell hx1 7
  have y8 : w1.cell? ⟨w.heap.size, 8, none⟩ = some (.int .i64 prio) := blk_cell hx1 8
  have y9 : w1.cell? ⟨w.heap.size, 9, none⟩ = some (.int .i64 array) := blk_cell hx1 9
  have y10 : w1.cell? ⟨w.heap.size, 10, none⟩ = some (.int .i64 retries) := blk_cell hx1 10
  have y11 : w1.cell? ⟨w.heap.size, 11, none⟩ = some (.bool held) := blk_cell hx1 11
  have y12 : w1.cell? ⟨w.heap.size, 12, none⟩ = some (.slice so n cp) := blk_cell hx1 12
  have z0 : w1.cell? ⟨w.heap.size + 1, 0, none⟩ = some (.string user') := blk_cell hy1 0
  have z1 : w1.cell? ⟨w.heap.size + 1, 1, none⟩ = some (.string part') := blk_cell hy1 1
  have z2 : w1.cell? ⟨w.heap.size + 1, 2, none⟩ = some (.int .i64 nodes') := blk_cell hy1 2
  have z3 : w1.cell? ⟨w.heap.size + 1, 3, none⟩ = some (.int .i64 da') := blk_cell hy1 3
  have z4 : w1.cell? ⟨w.heap.size + 1, 4, none⟩ = some (.int .i64 db') := blk_cell hy1 4
  have z5 : w1.cell? ⟨w.heap.size + 1, 5, none⟩ = some (.int .i64 dc') := blk_cell hy1 5
  have z6 : w1.cell? ⟨w.heap.size + 1, 6, none⟩ = some (.int .i64 dd') := blk_cell hy1 6
  have z7 : w1.cell? ⟨w.heap.size + 1, 7, none⟩ = some (.int .i64 wall') := blk_cell hy1 7
  have z8 : w1.cell? ⟨w.heap.size + 1, 8, none⟩ = some (.int .i64 prio') := blk_cell hy1 8
  have z9 : w1.cell? ⟨w.heap.size + 1, 9, none⟩ = some (.int .i64 array') := blk_cell hy1 9
  have z10 : w1.cell? ⟨w.heap.size + 1, 10, none⟩ = some (.int .i64 retries') := blk_cell hy1 10
  have z11 : w1.cell? ⟨w.heap.size + 1, 11, none⟩ = some (.bool held') := blk_cell hy1 11
  have z12 : w1.cell? ⟨w.heap.size + 1, 12, none⟩ = some (.slice so' n' cp') := blk_cell hy1 12
  replace hx1 := Lib.hid hx1; replace hy1 := Lib.hid hy1; replace hlow := Lib.hid hlow; replace hb1 := Lib.hid hb1
  cases q0 with
  | false =>
    go_wp2
    go_ret
    exact ⟨rfl, hlow.out⟩
  | true =>
  have f1 := e1.out
  cases q1 with
  | false =>
    go_wp2
    go_ret
    exact ⟨rfl, hlow.out⟩
  | true =>
  have f2 := e2.out
  cases q2 with
  | false =>
    go_wp2
    go_ret
    exact ⟨rfl, hlow.out⟩
  | true =>
  have f3 := e3.out
  cases q3 with
  | false =>
    go_wp2
    go_ret
    exact ⟨rfl, hlow.out⟩
  | true =>
  have f4 := e4'.out
  cases q4 with
  | false =>
    go_wp2
    go_ret
    exact ⟨rfl, hlow.out⟩
  | true =>
  have f5 := e5.out
  cases q5 with
  | false =>
    go_wp2
    go_ret
    exact ⟨rfl, hlow.out⟩
  | true =>
  have f6 := e6.out
  cases q6 with
  | false =>
    go_wp2
    go_ret
    exact ⟨rfl, hlow.out⟩
  | true =>
  have f7 := e7.out
  cases q7 with
  | false =>
    go_wp2
    go_ret
    exact ⟨rfl, hlow.out⟩
  | true =>
  have f8 := e8.out
  cases q8 with
  | false =>
    go_wp2
    go_ret
    exact ⟨rfl, hlow.out⟩
  | true =>
  have f9 := e9.out
  cases q9 with
  | false =>
    go_wp2
    go_ret
    exact ⟨rfl, hlow.out⟩
  | true =>
  go_wp2
  go_ret
  exact ⟨rfl, hlow.out⟩
end Go.Proofs.YteoihdkaoipocaaDoor
