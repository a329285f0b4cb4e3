/- corveelaw05.FleetBack: what a fleet tells is read as the same fleet. -/
import Derived.Test.YteoihdkaoipocaaDoorPbk
import Derived.Test.YteoihdkaoipocaaDoorAwf
namespace Go.Proofs.YteoihdkaoipocaaDoor
open Go.RowKit Go.Maps Go.Shelf

structure Bk (w : World) (f m b g m' b' : Nat) (vs : List Ndv) (wx : World) : Prop where
  low : Below w.heap.size w wx
  f : Flt wx f m b vs
  g : Flt wx g m' b' vs
theorem Bk.go {w wx wy : World} {f m b g m' b' : Nat} {vs : List Ndv} (h : Bk w f m b g m' b' vs wx) (hb : Below wx.heap.size wx wy) : Bk w f m b g m' b' vs wy :=
  ⟨h.low.trans (hb.mono h.low.size), h.f.below hb, h.g.below hb⟩
structure Bkg (w : World) (f m b g m' b' : Nat) (vs : List Ndv) (gv : Value) (wx : World) : Prop where
  gv : gv = .bool false
  ok : Bk w f m b g m' b' vs wx
set_option maxRecDepth 100000 in
set_option maxHeartbeats 6400000 in
theorem fback_any (s : ByteArray) (w : World) (hm : Mx w) (ht : Tb w) : Calls Tryd.prog 16 #[.string s] w fun e w' => e = .returned (.bool true) ∧ Below w.heap.size w w' := by
  have hc1 := awake5 w hm
  replace hc1 := Lib.hid hc1
  go_enter Tryd.func16, Tryd.ntmps16
  go_wp2_with fail
  refine hc1.out.mono ?_
  rintro e w1 ⟨rfl, hb1⟩
  have hc2 := read_any s w1 (hm.low hb1)
  obtain ⟨er, her⟩ : ∃ er, er = (readOf s).2.1 := ⟨_, rfl⟩
  obtain ⟨ei, hei⟩ : ∃ ei, ei = (readOf s).2.2 := ⟨_, rfl⟩
  unfold ReadPost at hc2
  rw [← her, ← hei] at hc2
  have hg := readOf_good s
  replace hb1 := Lib.hid hb1; replace hc2 := Lib.hid hc2; replace her := Lib.hid her; replace hei := Lib.hid hei; replace hg := Lib.hid hg; replace ht := Lib.hid ht; replace hm := Lib.hid hm
  go_wp2_with fail
  refine hc2.out.mono ?_
  rintro e w2 ⟨p, rfl, hb2, hcase⟩
  by_cases he0 : er = 0
  rotate_left
  · have n3 : (er != 0) = true := by simpa using he0
    have hno : p = none := by
      rcases hcase with ⟨_, h⟩ | ⟨h, _⟩
      · exact h
      · exact absurd h he0
    subst hno
    replace hb2 := Lib.hid hb2; replace hcase := Lib.hid hcase; replace he0 := Lib.hid he0
    go_wp2
    go_ret
    exact ⟨rfl, hb1.out.trans (hb2.out.mono hb1.out.size)⟩
  subst he0
  have hyes : p = some ⟨w1.heap.size + 4, 0, none⟩ ∧ Flt w2 (w1.heap.size + 4) (w1.heap.size + 3) (w1.heap.size + 7) (readOf s).1 := by
    rcases hcase with ⟨h, _⟩ | ⟨_, h1, h2⟩
    · exact absurd rfl h
    · exact ⟨h1, h2⟩
  obtain ⟨rfl, hF2⟩ := hyes
  obtain ⟨vs, hvs⟩ : ∃ vs, vs = (readOf s).1 := ⟨_, rfl⟩
  rw [← hvs] at hF2
  have hok : FltOk vs := by rw [hvs]; exact hg.out
  have hlow2 : Below w.heap.size w w2 := hb1.out.trans (hb2.mono hb1.out.size)
  obtain ⟨T, hT⟩ : ∃ T, T = ofL (textOf vs) := ⟨_, rfl⟩
  have hro : readOf T = (vs, 0, 0) := by rw [hT]; exact readOf_text hok
  have dT := str_eq (show T = T from rfl)
  have hc56 : ∀ W f m b, Flt W f m b vs → Tb W → Calls Tryd.prog 56 #[.pointer (some ⟨f, 0, none⟩)] W fun e w' => e = .returned (.string T) ∧ Below W.heap.size W w' := fun W f m b hF ht => by rw [hT]; exact ftext_any hF hok ht
  have hc3 := hc56 w2 _ _ _ hF2 (ht.out.low hlow2)
  replace hb2 := Lib.hid hb2; replace hcase := Lib.hid hcase; replace hF2 := Lib.hid hF2; replace hvs := Lib.hid hvs; replace hok := Lib.hid hok; replace hlow2 := Lib.hid hlow2; replace hT := Lib.hid hT; replace hro := Lib.hid hro; replace hc56 := Lib.hid hc56; replace hc3 := Lib.hid hc3
  go_wp2_with fail
  refine hc3.out.mono ?_
  rintro e w3 ⟨rfl, hb3⟩
  have hlow3 := hlow2.out.trans (hb3.mono hlow2.out.size)
  have hF3 := hF2.out.below hb3
  have hc4 := read_any T w3 (hm.out.low hlow3)
  unfold ReadPost at hc4
  rw [hro.out] at hc4
  replace hb3 := Lib.hid hb3; replace hlow3 := Lib.hid hlow3; replace hF3 := Lib.hid hF3; replace hc4 := Lib.hid hc4
  go_wp2_with fail
  refine hc4.out.mono ?_
  rintro e w4 ⟨p, rfl, hb4, hcase4⟩
  have hyes : p = some ⟨w3.heap.size + 4, 0, none⟩ ∧ Flt w4 (w3.heap.size + 4) (w3.heap.size + 3) (w3.heap.size + 7) vs := by
    rcases hcase4 with ⟨h, _⟩ | ⟨_, h1, h2⟩
    · exact absurd rfl h
    · exact ⟨h1, h2⟩
  obtain ⟨rfl, hG4⟩ := hyes
  obtain ⟨A, hA⟩ : ∃ A, A = w1.heap.size + 4 := ⟨_, rfl⟩
  obtain ⟨A2, hA2⟩ : ∃ A2, A2 = w1.heap.size + 3 := ⟨_, rfl⟩
  obtain ⟨A3, hA3⟩ : ∃ A3, A3 = w1.heap.size + 7 := ⟨_, rfl⟩
  obtain ⟨B, hB⟩ : ∃ B, B = w3.heap.size + 4 := ⟨_, rfl⟩
  obtain ⟨B2, hB2⟩ : ∃ B2, B2 = w3.heap.size + 3 := ⟨_, rfl⟩
  obtain ⟨B3, hB3⟩ : ∃ B3, B3 = w3.heap.size + 7 := ⟨_, rfl⟩
  have hF4 := hF3.out.below hb4
  rw [← hA, ← hA2, ← hA3] at hF4
  rw [← hB, ← hB2, ← hB3] at hG4
  have hBk : Bk w A A2 A3 B B2 B3 vs w4 := ⟨hlow3.out.trans (hb4.mono hlow3.out.size), hF4, hG4⟩
  obtain ⟨n, hn⟩ : ∃ n, n = vs.length := ⟨_, rfl⟩
  have hn16 : n ≤ 16 := by rw [hn]; exact hok.out.len
  have hnn : ((n : Int) != (n : Int)) = false := by simp
  rw [← hA, ← hB]
  replace hb4 := Lib.hid hb4; replace hcase4 := Lib.hid hcase4; replace hG4 := Lib.hid hG4; replace hF4 := Lib.hid hF4; replace hA := Lib.hid hA; replace hA2 := Lib.hid hA2; replace hA3 := Lib.hid hA3; replace hB := Lib.hid hB; replace hB2 := Lib.hid hB2; replace hB3 := Lib.hid hB3; replace hBk := Lib.hid hBk; replace hn := Lib.hid hn
  go_wp2_with fail
  refine (hc56.out _ B _ _ hBk.out.g (ht.out.low hBk.out.low)).mono ?_
  rintro e wz ⟨rfl, hbz⟩
  replace hBk := Lib.hid (hBk.out.go hbz)
  replace hbz := Lib.hid hbz
  go_wp2_with fail
  refine (flt_len hBk.out.g hn.out).mono ?_
  rintro e wy ⟨rfl, hby⟩
  replace hBk := Lib.hid (hBk.out.go hby)
  replace hby := Lib.hid hby
  go_wp2_with fail
  refine (flt_len hBk.out.f hn.out).mono ?_
  rintro e wx ⟨rfl, hbx⟩
  replace hBk := Lib.hid (hBk.out.go hbx)
  replace hbx := Lib.hid hbx
  go_wp2
  go_loopw [11, 12, 13, 14, 15] (fun i _ _ _ _ wr => ∃ k : Nat, i = .int .i64 k ∧ k ≤ n ∧ Hid (Bk w A A2 A3 B B2 B3 vs wr)) (fun i _ _ _ _ _ => n - (intOf i).toNat)
  case atStart => exact ⟨0, rfl, Nat.zero_le _, hBk.out⟩
  case round =>
    obtain ⟨k, rfl, hk, hM⟩ := hrel
    have hcl := flt_len hM.out.f hn.out
    replace hcl := Lib.hid hcl
    by_cases hc : k < n
    · have hc1 : (k : Int) < n := by omega
      have hk0 : (0 : Int) ≤ (k : Int) := by omega
      obtain ⟨v, hv⟩ : ∃ v, vs[k]? = some v := ⟨_, List.getElem?_eq_getElem (by have := hn.out; omega)⟩
      replace hv := Lib.hid hv
      go_wp2_with fail
      refine hcl.out.mono ?_
      rintro e w5 ⟨rfl, hb5⟩
      have hM5 := hM.out.go hb5
      have hna := node_at hM5.f hok.out (k : Int)
      replace hb5 := Lib.hid hb5; replace hM5 := Lib.hid hM5; replace hna := Lib.hid hna
      go_wp2_with fail
      refine hna.out.mono ?_
      rintro e w6 ⟨x, b, rfl, hxok, hb6, hxpo, hcase⟩
      have hb : b = true ∧ vs[k]? = some x.pl := by
        rcases hcase with ⟨h1, _, h3⟩ | ⟨_, _, h3⟩
        · exact ⟨h1, by simpa using h3⟩
        · exact absurd h3 (by have := hn.out; omega)
      obtain ⟨rfl, hvx⟩ := hb
      obtain ⟨W7, hW7⟩ : ∃ W7, W7 = w6.alloc (.cells x.cells 48 (0, 0)) := ⟨_, rfl⟩
      have hb7 : Below w6.heap.size w6 W7 := by rw [hW7]; exact (Below.refl _ _).alloc (Nat.le_refl _) _
      have hx7 : W7.heap[w6.heap.size]? = some (.cells x.cells 48 (0, 0)) := by rw [hW7]; exact blk_new _ _
      have hM7 := (hM5.out.go hb6).go hb7
      have hX7 := hxok.low hb7
      have hnb := node_at hM7.g hok.out (k : Int)
      rw [hW7] at hnb
      have hW7' := Lib.hid hW7
      clear hW7
      replace hxok := Lib.hid hxok; replace hb6 := Lib.hid hb6; replace hxpo := Lib.hid hxpo; replace hcase := Lib.hid hcase; replace hvx := Lib.hid hvx; replace hb7 := Lib.hid hb7; replace hx7 := Lib.hid hx7; replace hM7 := Lib.hid hM7; replace hX7 := Lib.hid hX7; replace hnb := Lib.hid hnb
      go_wp2_with fail
      refine hnb.out.mono ?_
      rintro e w8 ⟨y, b2, rfl, hyok, hb8, hypo, hcase2⟩
      rw [← hW7'.out] at hb8
      have hb : b2 = true ∧ vs[k]? = some y.pl := by
        rcases hcase2 with ⟨h1, _, h3⟩ | ⟨_, _, h3⟩
        · exact ⟨h1, by simpa using h3⟩
        · exact absurd h3 (by have := hn.out; omega)
      obtain ⟨rfl, hvy⟩ := hb
      have hxy : x.pl = y.pl := by
        have := hvx.out
        rw [hvy] at this
        exact (Option.some.inj this).symm
      obtain ⟨W9, hW9⟩ : ∃ W9, W9 = w8.alloc (.cells y.cells 48 (0, 0)) := ⟨_, rfl⟩
      have hb9 : Below w8.heap.size w8 W9 := by rw [hW9]; exact (Below.refl _ _).alloc (Nat.le_refl _) _
      have hy9 : W9.heap[w8.heap.size]? = some (.cells y.cells 48 (0, 0)) := by rw [hW9]; exact blk_new _ _
      have hb79 : Below W7.heap.size W7 W9 := hb8.trans (hb9.mono hb8.size)
      have hx9 := blk_below hb79 hx7.out (blk_lt hx7.out)
      have hcur : Below W9.heap.size W9 W9 := Below.refl _ _
      have hM9 := (hM7.out.go hb79).go hcur
      have hX := (hX7.out.low hb79).low hcur
      have hY := (hyok.low hb9).low hcur
      obtain ⟨nm, ⟨ca, cb, cc, cd⟩, po, pn, pc, ps⟩ := x
      obtain ⟨nm', ⟨ca', cb', cc', cd'⟩, po', pn', pc', ps'⟩ := y
      have hSx : ∀ W', Below W9.heap.size W9 W' →
          W'.cell? ⟨w6.heap.size, 0, none⟩ = some (.string nm) ∧ W'.cell? ⟨w6.heap.size, 1, none⟩ = some (.int .i64 ca) ∧ W'.cell? ⟨w6.heap.size, 2, none⟩ = some (.int .i64 cb) ∧ W'.cell? ⟨w6.heap.size, 3, none⟩ = some (.int .i64 cc) ∧ W'.cell? ⟨w6.heap.size, 4, none⟩ = some (.int .i64 cd) ∧ W'.cell? ⟨w6.heap.size, 5, none⟩ = some (.slice po pn pc) ∧
          W'.cell? ⟨w8.heap.size, 0, none⟩ = some (.string nm') ∧ W'.cell? ⟨w8.heap.size, 1, none⟩ = some (.int .i64 ca') ∧ W'.cell? ⟨w8.heap.size, 2, none⟩ = some (.int .i64 cb') ∧ W'.cell? ⟨w8.heap.size, 3, none⟩ = some (.int .i64 cc') ∧ W'.cell? ⟨w8.heap.size, 4, none⟩ = some (.int .i64 cd') ∧ W'.cell? ⟨w8.heap.size, 5, none⟩ = some (.slice po' pn' pc') := fun W' hb => by
        have hz := blk_below hb hx9 (blk_lt hx9)
        have hy := blk_below hb hy9 (blk_lt hy9)
        exact ⟨blk_cell hz 0, blk_cell hz 1, blk_cell hz 2, blk_cell hz 3, blk_cell hz 4, blk_cell hz 5, blk_cell hy 0, blk_cell hy 1, blk_cell hy 2, blk_cell hy 3, blk_cell hy 4, blk_cell hy 5⟩
      obtain ⟨z0, z1, z2, z3, z4, z5, y0, y1, y2, y3, y4, y5⟩ := hSx W9 (Below.refl _ _)
      replace hyok := Lib.hid hyok; replace hb8 := Lib.hid hb8; replace hypo := Lib.hid hypo; replace hcase2 := Lib.hid hcase2; replace hvy := Lib.hid hvy; replace hxy := Lib.hid hxy; replace hb9 := Lib.hid hb9; replace hy9 := Lib.hid hy9; replace hb79 := Lib.hid hb79; replace hx9 := Lib.hid hx9; replace hcur := Lib.hid hcur; replace hM9 := Lib.hid hM9; replace hX := Lib.hid hX; replace hY := Lib.hid hY; replace hSx := Lib.hid hSx
      have hW9' := Lib.hid hW9
      clear hW9
      go_upto_region 16 with fail
      rw [← hW9'.out]
      go_wp2_with fail
      refine (nodes_same hX.out hY.out hxy.out).mono ?_
      rintro e wz ⟨rfl, hbz⟩
      replace hM9 := Lib.hid (hM9.out.go hbz)
      clear z0 z1 z2 z3 z4 z5 y0 y1 y2 y3 y4 y5
      replace hbz := Lib.hid hbz
      go_wp2
      go_roundw
      case rel => exact ⟨k + 1, by go_num, by omega, hM9.out⟩
      case measure => simp [intOf]; omega
    · have hc1 : ¬ (k : Int) < n := by omega
      go_wp2_with fail
      refine hcl.out.mono ?_
      rintro e w5 ⟨rfl, hb5⟩
      replace hb5 := Lib.hid hb5
      go_wp2
      go_ret
      exact ⟨rfl, hM.out.low.trans (hb5.out.mono hM.out.low.size)⟩
end Go.Proofs.YteoihdkaoipocaaDoor
