/- corveelaw05.FleetTexts: a fleet's text is the document's. -/
import Derived.Test.YteoihdkaoipocaaDoorRft
import Derived.Test.YteoihdkaoipocaaDoorAwf
namespace Go.Proofs.YteoihdkaoipocaaDoor
open Go.RowKit Go.Maps Go.Shelf

set_option maxRecDepth 100000 in
set_option maxHeartbeats 3200000 in
theorem ftexts_any (s : ByteArray) (w : World) (hm : Mx w) (ht : Tb w) : Calls Tryd.prog 15 #[.string s] w fun e w' => e = .returned (.bool true) ∧ Below w.heap.size w w' := by
  have hc1 := awake5 w hm
  replace hc1 := Lib.hid hc1
  go_enter Tryd.func15, Tryd.ntmps15
  go_wp2_with fail
  refine hc1.out.mono ?_
  rintro e w1 ⟨rfl, hb1⟩
  have hc2 := read_any s w1 (hm.low hb1)
  obtain ⟨er, her⟩ : ∃ er, er = (readOf s).2.1 := ⟨_, rfl⟩
  obtain ⟨ei, hei⟩ : ∃ ei, ei = (readOf s).2.2 := ⟨_, rfl⟩
  unfold ReadPost at hc2
  rw [← her, ← hei] at hc2
  have hg := readOf_good s
  replace hb1 := Lib.hid hb1; replace hc2 := Lib.hid hc2; replace her := Lib.hid her; replace hei := Lib.hid hei; replace hg := Lib.hid hg; replace ht := Lib.hid ht
  go_wp2_with fail
  refine hc2.out.mono ?_
  rintro e w2 ⟨p, rfl, hb2, hcase⟩
  by_cases he0 : er = 0
  rotate_left
  · have n3 : (er != 0) = true := by simpa using he0
    replace hb2 := Lib.hid hb2; replace hcase := Lib.hid hcase; replace he0 := Lib.hid he0
    go_wp2
    go_ret
    exact ⟨rfl, hb1.out.trans (hb2.out.mono hb1.out.size)⟩
  subst he0
  have hyes : p = some ⟨w1.heap.size + 4, 0, none⟩ ∧ Flt w2 (w1.heap.size + 4) (w1.heap.size + 3) (w1.heap.size + 7) (readOf s).1 := by
    rcases hcase with ⟨h, _⟩ | ⟨_, h1, h2⟩
    · exact absurd rfl h
    · exact ⟨h1, h2⟩
  obtain ⟨rfl, hF2⟩ := hyes
  have hc3 := rread_any s w2
  unfold RreadPost at hc3
  rw [← her.out, ← hei.out] at hc3
  replace hb2 := Lib.hid hb2; replace hcase := Lib.hid hcase; replace hc3 := Lib.hid hc3; replace hF2 := Lib.hid hF2
  go_wp2_with fail
  refine hc3.out.mono ?_
  rintro e w3 ⟨nv, xs, rfl, hb3, hR3, hpls⟩
  obtain ⟨so, m0, c0, rfl⟩ : ∃ so m0 c0, nv = .slice so m0 c0 := by
    rcases hR3.row.2 with ⟨h, _⟩ | ⟨g, cap, cur, h, _⟩
    · exact ⟨none, 0, 0, h⟩
    · exact ⟨_, _, _, h⟩
  have hlow3 : Below w.heap.size w w3 := hb1.out.trans ((hb2.out.trans (hb3.mono hb2.out.size)).mono hb1.out.size)
  have hFr : Flr w3 (.slice so m0 c0) (readOf s).1 := ⟨_, xs, hR3, hpls (by trivial)⟩
  obtain ⟨vs, hvs⟩ : ∃ vs, vs = (readOf s).1 := ⟨_, rfl⟩
  obtain ⟨W4, hW4⟩ : ∃ W4, W4 = w3.alloc (.cells #[.slice so m0 c0] 44 (0, 0)) := ⟨_, rfl⟩
  have hlow4 : Below w3.heap.size w3 W4 := by rw [hW4]; exact (Below.refl _ _).alloc (Nat.le_refl _) _
  have hbx : W4.heap[w3.heap.size]? = some (.cells #[.slice so m0 c0] 44 (0, 0)) := by rw [hW4]; exact blk_new _ _
  have hF3 := hF2.out.below hb3
  rw [← hvs] at hF3 hFr
  have hok : FltOk vs := by rw [hvs]; exact hg.out
  have hcur : Below W4.heap.size W4 W4.drew := (Below.refl _ _).drew
  have hF := (hF3.below hlow4).below hcur
  have hR := (hFr.below hlow4).below hcur
  have hlw := hlow3.trans ((hlow4.trans (hcur.mono hlow4.size)).mono hlow3.size)
  have hTb := ht.out.low hlw
  obtain ⟨T, hT⟩ : ∃ T, T = ofL (textOf vs) := ⟨_, rfl⟩
  have dT := str_eq (show T = T from rfl)
  have hc56 : ∀ W, Flt W (w1.heap.size + 4) (w1.heap.size + 3) (w1.heap.size + 7) vs → Tb W → Calls Tryd.prog 56 #[.pointer (some ⟨w1.heap.size + 4, 0, none⟩)] W fun e w' => e = .returned (.string T) ∧ Below W.heap.size W w' := fun W hF ht => by rw [hT]; exact ftext_any hF hok ht
  have hc44 : ∀ W, Flr W (.slice so m0 c0) vs → Calls Tryd.prog 44 #[.agg #[.slice so m0 c0]] W fun e w' => e = .returned (.string T) ∧ Below W.heap.size W w' := fun W hR => by rw [hT]; exact rftext_any hR hok
  have hSx : ∀ W' : World, Below W4.heap.size W4 W' → W'.cell? ⟨w3.heap.size, 0, none⟩ = some (.slice so m0 c0) := fun W' hb => blk_cell (blk_below hb hbx (blk_lt hbx)) 0
  have f0 := hSx W4 (Below.refl _ _)
  replace hb3 := Lib.hid hb3; replace hR3 := Lib.hid hR3; replace hpls := Lib.hid hpls; replace hlow3 := Lib.hid hlow3; replace hFr := Lib.hid hFr; replace hvs := Lib.hid hvs; replace hlow4 := Lib.hid hlow4; replace hbx := Lib.hid hbx; replace hF3 := Lib.hid hF3; replace hok := Lib.hid hok; replace hcur := Lib.hid hcur; replace hF := Lib.hid hF; replace hR := Lib.hid hR; replace hlw := Lib.hid hlw; replace hTb := Lib.hid hTb; replace hT := Lib.hid hT; replace hc56 := Lib.hid hc56; replace hc44 := Lib.hid hc44; replace hSx := Lib.hid hSx
  have hW4' := Lib.hid hW4
  clear hW4
  go_upto_region 8 with fail
  rw [← hW4'.out]
  go_region_held3 (fun W' => W'.cell? ⟨w3.heap.size, 0, none⟩ = some (.slice so m0 c0))
    (first
      | with_reducible exact hSx.out _ hcur.out)
    (first
      | (go_at_call 56
         (with_reducible refine (hc56.out _ hF.out hTb.out).mono ?_)
         rintro e wz ⟨rfl, hbz⟩
         replace hcur := Lib.hid (hcur.out.trans (hbz.mono hcur.out.size))
         replace hF := Lib.hid (hF.out.below hbz)
         replace hR := Lib.hid (hR.out.below hbz)
         replace hTb := Lib.hid (hTb.out.low hbz)
         replace hlw := Lib.hid (hlw.out.trans (hbz.mono hlw.out.size))
         replace hbz := Lib.hid hbz)
      | (go_at_call 44
         (with_reducible refine (hc44.out _ hR.out).mono ?_)
         rintro e wz ⟨rfl, hbz⟩
         replace hcur := Lib.hid (hcur.out.trans (hbz.mono hcur.out.size))
         replace hF := Lib.hid (hF.out.below hbz)
         replace hR := Lib.hid (hR.out.below hbz)
         replace hTb := Lib.hid (hTb.out.low hbz)
         replace hlw := Lib.hid (hlw.out.trans (hbz.mono hlw.out.size))
         replace hbz := Lib.hid hbz))
  all_goals
    go_wp2
    go_ret
    exact ⟨rfl, hlw.out⟩
end Go.Proofs.YteoihdkaoipocaaDoor
