/- corveelaw05.FleetReads: any text is read as the document says, or refused with its error, at its line. -/
import Derived.Test.YteoihdkaoipocaaDoorSma
import Derived.Test.YteoihdkaoipocaaDoorAwf
namespace Go.Proofs.YteoihdkaoipocaaDoor
open Go.RowKit Go.Maps Go.Shelf

set_option maxRecDepth 100000 in
set_option maxHeartbeats 3200000 in
theorem freads_any (s part : ByteArray) (i : Int) (w : World) (hm : Mx w) (hp : part.size ≤ maxLen) : Calls Tryd.prog 8 #[.string s, .string part, .int .i64 i] w fun e w' => e = .returned (.bool true) ∧ Below w.heap.size w w' := by
  have hc1 := awake5 w hm
  replace hc1 := Lib.hid hc1
  by_cases hbig : 6000 < s.size
  · have d1 : decide ((6000 : Int) < s.size) = true := decide_eq_true (by omega)
    have d1' : decide (6000 < s.size) = true := decide_eq_true hbig
    go_enter Tryd.func8, Tryd.ntmps8
    go_wp2_with fail
    refine hc1.out.mono ?_
    rintro e w1 ⟨rfl, hb1⟩
    replace hb1 := Lib.hid hb1
    go_wp2
    go_ret
    exact ⟨rfl, hb1.out⟩
  have d1 : decide ((6000 : Int) < s.size) = false := decide_eq_false (by omega)
  have d1' : decide (6000 < s.size) = false := decide_eq_false hbig
  go_enter Tryd.func8, Tryd.ntmps8
  go_wp2_with fail
  refine hc1.out.mono ?_
  rintro e w1 ⟨rfl, hb1⟩
  have hc2 := read_any s w1 (hm.low hb1)
  obtain ⟨er, her⟩ : ∃ er, er = (readOf s).2.1 := ⟨_, rfl⟩
  obtain ⟨ei, hei⟩ : ∃ ei, ei = (readOf s).2.2 := ⟨_, rfl⟩
  unfold ReadPost at hc2
  rw [← her, ← hei] at hc2
  have hg := readOf_good s
  have n1 : (er != er) = false := by simp
  have n2 : (ei != ei) = false := by simp
  replace hb1 := Lib.hid hb1; replace hc2 := Lib.hid hc2; replace her := Lib.hid her; replace hei := Lib.hid hei; replace hg := Lib.hid hg
  go_wp2_with fail
  refine hc2.out.mono ?_
  rintro e w2 ⟨p, rfl, hb2, hcase⟩
  have hc3 := rread_any s w2
  unfold RreadPost at hc3
  rw [← her.out, ← hei.out] at hc3
  replace hb2 := Lib.hid hb2; replace hcase := Lib.hid hcase; replace hc3 := Lib.hid hc3
  go_wp2_with fail
  refine hc3.out.mono ?_
  rintro e w3 ⟨nv, xs, rfl, hb3, hR3, hpls⟩
  obtain ⟨so, m0, c0, rfl⟩ : ∃ so m0 c0, nv = .slice so m0 c0 := by
    rcases hR3.row.2 with ⟨h, _⟩ | ⟨g, cap, cur, h, _⟩
    · exact ⟨none, 0, 0, h⟩
    · exact ⟨_, _, _, h⟩
  have hlow3 : Below w.heap.size w w3 := hb1.out.trans ((hb2.out.trans (hb3.mono hb2.out.size)).mono hb1.out.size)
  by_cases he0 : er = 0
  · subst he0
    have hyes : p = some ⟨w1.heap.size + 4, 0, none⟩ ∧ Flt w2 (w1.heap.size + 4) (w1.heap.size + 3) (w1.heap.size + 7) (readOf s).1 := by
      rcases hcase.out with ⟨h, _⟩ | ⟨_, h1, h2⟩
      · exact absurd rfl h
      · exact ⟨h1, h2⟩
    obtain ⟨rfl, hF2⟩ := hyes
    have hF3 := hF2.below hb3
    have hFr : Flr w3 (.slice so m0 c0) (readOf s).1 := ⟨_, xs, hR3, hpls rfl⟩
    obtain ⟨vs, hvs⟩ : ∃ vs, vs = (readOf s).1 := ⟨_, rfl⟩
    obtain ⟨W4, hW4⟩ : ∃ W4, W4 = w3.alloc (.cells #[.slice so m0 c0] 44 (0, 0)) := ⟨_, rfl⟩
    have hlow4 : Below w3.heap.size w3 W4 := by rw [hW4]; exact (Below.refl _ _).alloc (Nat.le_refl _) _
    have hbx : W4.heap[w3.heap.size]? = some (.cells #[.slice so m0 c0] 44 (0, 0)) := by rw [hW4]; exact blk_new _ _
    rw [← hvs] at hF3 hFr
    have hok : FltOk vs := by rw [hvs]; exact hg.out
    have hF4 := hF3.below hlow4
    have hR4 := hFr.below hlow4
    have hlw4 : Below w.heap.size w W4 := hlow3.trans (hlow4.mono hlow3.size)
    have hna := node_at hF4 hok i
    rw [hW4] at hna
    have hW4' := Lib.hid hW4
    clear hW4
    replace hb3 := Lib.hid hb3; replace hR3 := Lib.hid hR3; replace hpls := Lib.hid hpls; replace hlow3 := Lib.hid hlow3; replace hF2 := Lib.hid hF2; replace hF3 := Lib.hid hF3; replace hFr := Lib.hid hFr; replace hvs := Lib.hid hvs; replace hlow4 := Lib.hid hlow4; replace hbx := Lib.hid hbx; replace hok := Lib.hid hok; replace hF4 := Lib.hid hF4; replace hR4 := Lib.hid hR4; replace hlw4 := Lib.hid hlw4; replace hna := Lib.hid hna
    go_wp2_with fail
    refine hna.out.mono ?_
    rintro e w5 ⟨x, b, rfl, hxok, hb5, hxpo, hnc⟩
    rw [← hW4'.out] at hb5
    obtain ⟨W6, hW6⟩ : ∃ W6, W6 = w5.alloc (.cells x.cells 48 (0, 0)) := ⟨_, rfl⟩
    have hb6 : Below w5.heap.size w5 W6 := by rw [hW6]; exact (Below.refl _ _).alloc (Nat.le_refl _) _
    have hx6 : W6.heap[w5.heap.size]? = some (.cells x.cells 48 (0, 0)) := by rw [hW6]; exact blk_new _ _
    have hb46 : Below W4.heap.size W4 W6 := hb5.trans (hb6.mono hb5.size)
    have hF6 := hF4.out.below hb46
    have hR6 := hR4.out.below hb46
    have hbx6 := blk_below hb46 hbx.out (blk_lt hbx.out)
    have f6 : W6.cell? ⟨w3.heap.size, 0, none⟩ = some (.slice so m0 c0) := blk_cell hbx6 0
    have hlw6 : Below w.heap.size w W6 := hlw4.out.trans (hb46.mono hlw4.out.size)
    have hln := flr_lens hR6
    obtain ⟨n, hn⟩ : ∃ n, n = vs.length := ⟨_, rfl⟩
    rw [← hn] at hln hnc
    have hxok6 := hxok.low hb6
    have hsame := fun W (hb : Below W6.heap.size W6 W) => same_any (hF6.below hb) hok.out (hR6.below hb) part hp
    rcases hnc with ⟨rfl, hi0, hvi⟩ | ⟨rfl, rfl, hout⟩
    · have hilt : i < n := by
        have h1 := (List.getElem?_eq_some_iff.1 hvi).1
        omega
      have q1 : decide (0 ≤ i) = true := decide_eq_true hi0
      have q2 : decide (i < n) = true := decide_eq_true hilt
      have hs0 := hsame W6 (Below.refl _ _)
      rw [hW6] at hs0 f6
      have hW6' := Lib.hid hW6
      clear hW6
      replace hb5 := Lib.hid hb5; replace hb6 := Lib.hid hb6; replace hxok := Lib.hid hxok; replace hxpo := Lib.hid hxpo; replace hvi := Lib.hid hvi; replace hx6 := Lib.hid hx6; replace hb46 := Lib.hid hb46; replace hF6 := Lib.hid hF6; replace hR6 := Lib.hid hR6; replace hbx6 := Lib.hid hbx6; replace hlw6 := Lib.hid hlw6; replace hn := Lib.hid hn; replace hxok6 := Lib.hid hxok6; replace hs0 := Lib.hid hs0
      have hsame' := Lib.hid hsame
      clear hsame
      obtain ⟨nm, ⟨ca, cb, cc, cd⟩, po, pn, pc, ps⟩ := x
      go_wp2_with fail
      refine hs0.out.mono ?_
      rintro e w7 ⟨rfl, hb7⟩
      rw [← hW6'.out] at hb7
      replace hb7 := Lib.hid hb7
      go_wp2
      go_ret
      exact ⟨rfl, hlw6.out.trans (hb7.out.mono hlw6.out.size)⟩
    · have hzz := nodes_same (x := Nde.zero) (y := Nde.zero) hxok6 (Nde.zero_ok W6) rfl
      rw [hW6] at hzz f6
      have hW6' := Lib.hid hW6
      clear hW6
      replace hb5 := Lib.hid hb5; replace hb6 := Lib.hid hb6; replace hxok := Lib.hid hxok; replace hxpo := Lib.hid hxpo; replace hx6 := Lib.hid hx6; replace hb46 := Lib.hid hb46; replace hF6 := Lib.hid hF6; replace hR6 := Lib.hid hR6; replace hbx6 := Lib.hid hbx6; replace hlw6 := Lib.hid hlw6; replace hn := Lib.hid hn; replace hxok6 := Lib.hid hxok6; replace hzz := Lib.hid hzz
      have hsame' := Lib.hid hsame
      clear hsame
      by_cases hlo : 0 ≤ i
      · have q1 : decide (0 ≤ i) = true := decide_eq_true hlo
        have q2 : decide (i < n) = false := decide_eq_false (by omega)
        replace hout := Lib.hid hout
        go_wp2_with fail
        refine hzz.out.mono ?_
        rintro e w7 ⟨rfl, hb7⟩
        rw [← hW6'.out] at hb7
        have hs7 := hsame'.out w7 hb7
        have f7 : w7.cell? ⟨w3.heap.size, 0, none⟩ = some (.slice so m0 c0) := blk_cell (blk_below hb7 hbx6.out (blk_lt hbx6.out)) 0
        clear f6
        replace hb7 := Lib.hid hb7; replace hs7 := Lib.hid hs7
        go_wp2_with fail
        refine hs7.out.mono ?_
        rintro e w8 ⟨rfl, hb8⟩
        replace hb8 := Lib.hid hb8
        go_wp2
        go_ret
        exact ⟨rfl, hlw6.out.trans ((hb7.out.trans (hb8.out.mono hb7.out.size)).mono hlw6.out.size)⟩
      · have q1 : decide (0 ≤ i) = false := decide_eq_false hlo
        replace hout := Lib.hid hout
        go_wp2_with fail
        refine hzz.out.mono ?_
        rintro e w7 ⟨rfl, hb7⟩
        rw [← hW6'.out] at hb7
        have hs7 := hsame'.out w7 hb7
        have f7 : w7.cell? ⟨w3.heap.size, 0, none⟩ = some (.slice so m0 c0) := blk_cell (blk_below hb7 hbx6.out (blk_lt hbx6.out)) 0
        clear f6
        replace hb7 := Lib.hid hb7; replace hs7 := Lib.hid hs7
        go_wp2_with fail
        refine hs7.out.mono ?_
        rintro e w8 ⟨rfl, hb8⟩
        replace hb8 := Lib.hid hb8
        go_wp2
        go_ret
        exact ⟨rfl, hlw6.out.trans ((hb7.out.trans (hb8.out.mono hb7.out.size)).mono hlw6.out.size)⟩
  · have hno : p = none := by
      rcases hcase.out with ⟨_, h⟩ | ⟨h, _⟩
      · exact h
      · exact absurd h he0
    subst hno
    have n3 : (er != 0) = true := by simpa using he0
    have hlow4 : ∀ o : Obj, Below w.heap.size w (w3.alloc o) := fun o => hlow3.alloc hlow3.size o
    replace hb3 := Lib.hid hb3; replace hR3 := Lib.hid hR3; replace hpls := Lib.hid hpls; replace hlow3 := Lib.hid hlow3; replace he0 := Lib.hid he0; replace hlow4 := Lib.hid hlow4
    go_wp2
    go_ret
    exact ⟨rfl, hlow4.out _⟩
end Go.Proofs.YteoihdkaoipocaaDoor
