/- corveelaw07.GangOne, walked: it answers true. Conditions: the rows that come in lie in memory; the act's tick is a machine's number. -/
import Derived.Test.YtpjajiambbobhaaGonew
namespace Go.Proofs.Ytpjajiambbobhaa
open Go.RowKit

set_option maxRecDepth 100000 in
set_option maxHeartbeats 1600000 in
theorem gone_any (whole : V4) (sv : Value) (acts : List Actg) (a : Actg) (w : World) (ha : ActgsAt w sv acts) (hfr : a.fr ≤ 9223372036854775807) :
    Calls Try.prog 7 #[whole.val, sv, a.val] w fun e w' => e = .returned (.bool true) ∧ Below w.heap.size w w' := by
  obtain ⟨ao, capA, rfl, hal, hac⟩ := ha
  obtain ⟨W, hW⟩ : ∃ W, W = (w.alloc (.cells whole.cells 23 (0, 0))).alloc a.obj := ⟨_, rfl⟩
  have hG0 : G1 w whole a W := by
    rw [hW]
    exact ⟨blk_old _ (blk_new _ _), blk_at _ _ (by simp), ((Below.refl _ _).alloc (Nat.le_refl _) _).alloc (by simp) _⟩
  have s0 : w.heap.size + 2 ≤ W.heap.size := by rw [hW]; simp
  have haw := gawake_any W
  rw [hW] at haw
  replace hac := Lib.hid hac; replace hG0 := Lib.hid hG0; replace hW := Lib.hid hW; replace haw := Lib.hid haw
  go_enter Try.func7, Try.ntmps7
  go_wp2_with fail
  refine haw.out.mono ?_
  rintro e w1 ⟨rfl, hb1⟩
  rw [← hW.out] at hb1
  have hG1 := hG0.out.below hb1
  have s1 := hb1.size
  have d0 := blk_cell hG1.one 0; have d1 := blk_cell hG1.one 1; have d2 := blk_cell hG1.one 2; have d3 := blk_cell hG1.one 3
  simp at d0 d1 d2 d3
  have l1 := blk_lt hG1.one
  replace hG1 := Lib.hid hG1; replace hb1 := Lib.hid hb1
  go_wp2_with fail
  refine (new_any whole w1).mono ?_
  rintro e w2 hnew
  have hb2 : Below w1.heap.size w1 w2 := by rcases hnew with ⟨_, _, h⟩ | ⟨_, _, _, _, _, _, _, h⟩ <;> exact h
  have hG2 := hG1.out.below hb2
  have s2 := hb2.size
  clear d0 d1 d2 d3 l1
  have d0 := blk_cell hG2.one 0; have d1 := blk_cell hG2.one 1; have d2 := blk_cell hG2.one 2; have d3 := blk_cell hG2.one 3
  simp at d0 d1 d2 d3
  have l2 := blk_lt hG2.one
  have hng := newg_any (some ⟨w2.heap.size, 0, none⟩) 3 3 [whole, whole, whole] _ (three_vecs whole w2)
  replace hG2 := Lib.hid hG2; replace hb2 := Lib.hid hb2; replace hng := Lib.hid hng
  have hvv : Hid (∀ i, i < 3 → vv [whole, whole, whole] i = whole) := fun i hi => by rcases three hi with rfl | rfl | rfl <;> rfl
  rcases hnew with ⟨hw, rfl, _⟩ | ⟨hw, pb, sb, rfl, hp, hpb, hsb, _⟩
  · replace hw := Lib.hid hw
    go_wp2_with fail
    refine hng.out.mono ?_
    rintro e w3 (⟨hno, rfl, hb3⟩ | ⟨_, hr, _⟩)
    · have hG3 : Below w.heap.size w w3 := (hG2.out.low.alloc (by have := hG2.out.low.size; omega) _).trans (hb3.mono (by simp; omega))
      replace hno := Lib.hid hno; replace hb3 := Lib.hid hb3; replace hG3 := Lib.hid hG3
      go_wp2
      go_ret
      exact ⟨rfl, hG3.out⟩
    · have := hr 0 (by omega)
      rw [hvv.out 0 (by omega), hw.out] at this; cases this
  · replace hw := Lib.hid hw; replace hp := Lib.hid hp; replace hpb := Lib.hid hpb; replace hsb := Lib.hid hsb
    go_wp2_with fail
    refine hng.out.mono ?_
    rintro e w3 (⟨hno, _, _⟩ | ⟨_, hr, gb, gs, po, cap, ps, rfl, hgb, hp3, hlen, hst, hmine, hb3⟩)
    · exact absurd ⟨by omega, fun i hi => by rw [hvv.out i hi]; exact hw.out⟩ hno
    have hB23 : Below w2.heap.size w2 w3 := ((Below.refl _ _).alloc (Nat.le_refl _) _).trans (hb3.mono (by simp))
    have hG3 := hG2.out.below hB23
    have hpl := hp.out.lt
    have hBo : Both w w3 pb sb 1 whole [⟨0, whole⟩] gb gs po cap ps :=
      ⟨hp.out.below hB23 hpl.1 hpl.2, inv_new hw.out, hp3, ⟨hlen, fun i hi => by rw [(hst i hi).1, hvv.out i hi], fun i hi => by rw [(hst i hi).2, hvv.out i hi]⟩,
        fun b hb => by have := hmine b hb; simp at this; omega, fun b hb => by have := hmine b hb; simp at this; omega, by have := hpb.out; have := hsb.out; omega⟩
    clear d0 d1 d2 d3 l2 hgb
    replace hr := Lib.hid hr; replace hp3 := Lib.hid hp3; replace hlen := Lib.hid hlen; replace hst := Lib.hid hst; replace hmine := Lib.hid hmine; replace hb3 := Lib.hid hb3; replace hB23 := Lib.hid hB23
    replace hG3 := Lib.hid hG3; replace hpl := Lib.hid hpl; replace hBo := Lib.hid hBo
    go_wp2
    go_loopw [10, 11, 12, 13] (fun i _ _ _ wr => ∃ (k sb pc : Nat) (l : List St) (q : List Nd), i = .int .i64 k ∧ k ≤ acts.length ∧ Hid (Both w wr pb sb pc whole l gb gs po cap q) ∧ Hid (G1 w whole a wr)) (fun i _ _ _ _ => acts.length - (intOf i).toNat)
    case atStart => exact ⟨0, sb, 1, [⟨0, whole⟩], ps, rfl, Nat.zero_le _, hBo.out, hG3.out⟩
    case round =>
      obtain ⟨k, sb, pc, l, q, rfl, hk, hBr, hGr⟩ := hrel
      by_cases hc : k < acts.length ∧ k < 20
      · have hc1 : (k : Int) < acts.length := by omega
        have hc2 : (k : Int) < 20 := by omega
        have hk0 : (0 : Int) ≤ (k : Int) := by omega
        have hkl : k < acts.length := hc.1
        replace hc := Lib.hid hc
        obtain ⟨b, off, rfl, hb, ok, a0, a1, a2, a3, a4, a5, a6, a7, a8⟩ := hac.out k hkl
        have hL := hGr.out.low
        have b0 := (below_cell hL hb).trans a0; have b1 := (below_cell hL hb).trans a1; have b2 := (below_cell hL hb).trans a2
        have b3 := (below_cell hL hb).trans a3; have b4 := (below_cell hL hb).trans a4; have b5 := (below_cell hL hb).trans a5; have b6 := (below_cell hL hb).trans a6; have b7 := (below_cell hL hb).trans a7; have b8 := (below_cell hL hb).trans a8
        clear a0 a1 a2 a3 a4 a5 a6 a7 a8 ok
        have hsz := hL.size
        obtain ⟨x, hx⟩ : ∃ x, x = actg acts k := ⟨_, rfl⟩
        rw [← hx] at b0 b1 b2 b3 b4 b5 b6 b7 b8
        have hBa : Both w (wr.alloc x.obj) pb sb pc whole l gb gs po cap q := hBr.out.below ((Below.refl _ _).alloc (Nat.le_refl _) _)
        have htk := take_any pb sb pc whole l x.fr x.tt x.v _ hBa.prof hBa.inv.loose
        have hsa : w.heap.size + 2 ≤ (wr.alloc x.obj).heap.size := by have := blk_lt hGr.out.box; simp; omega
        have hxb : (wr.alloc x.obj).heap[wr.heap.size]? = some x.obj := blk_new _ _
        have hne : ∀ b, b = pb ∨ b = sb → b < wr.heap.size := by rintro b (rfl | rfl); exact hBr.out.prof.lt.1; exact hBr.out.prof.lt.2
        replace hx := Lib.hid hx; replace hL := Lib.hid hL; replace hBa := Lib.hid hBa; replace htk := Lib.hid htk; replace hsa := Lib.hid hsa; replace hxb := Lib.hid hxb; replace hne := Lib.hid hne
        go_wp2_with fail
        refine htk.out.mono ?_
        rintro e w4 ⟨r, sb', pc', l', rfl, hR, hp4, hs4, hm4⟩
        have hxb4 : w4.heap[wr.heap.size]? = some x.obj := (hm4.block _ (blk_lt hxb.out) (fun c => by have := hne.out _ c; omega)).trans hxb.out
        obtain ⟨y1, y2, y3, y4, y5, y6, y7, y8⟩ := actg_cells hxb4
        have hP4 : Pool w4 gb gs po cap q := by
          have hd := hBa.out.pool.beside hBa.out.prof (by rw [hBa.out.same.len]; omega) hBa.out.inv.loose.pos
          refine hBa.out.pool.mod hm4 ?_ ?_ fun b hb => ?_
          · rintro (c | c); exact hd.1 c; exact hd.2.1 c
          · rintro (c | c); exact hd.2.2.1 c; exact hd.2.2.2 c
          · rintro (c | c); exact (hBa.out.apart b hb).1 c; exact (hBa.out.apart b hb).2 c
        have hP5 := hP4.below ((Below.refl _ _).alloc (Nat.le_refl _) (.cells #[.int .i64 0, .int .i64 1, .int .i64 2] 3 (0, 0)))
        have htg := gtake_any gb gs cap po q _ 3 3 [0, 1, 2] x.fr x.tt x.v _ hP5 (three_ints w4 0 1 2) (fun _ b off e hm => by cases e; have := hP4.mine_lt hm; omega) (Nat.le_refl _)
        have l4 := blk_lt hxb4
        have hG4 : G1 w whole a w4 := (hGr.out.below ((Below.refl _ _).alloc (Nat.le_refl _) x.obj)).mod hm4 (fun b hb => by have := hBa.out.own; rcases hb with rfl | rfl <;> omega)
        clear b0 b1 b2 b3 b4 b5 b6 b7 b8
        replace hR := Lib.hid hR; replace hp4 := Lib.hid hp4; replace hs4 := Lib.hid hs4; replace hm4 := Lib.hid hm4; replace hxb4 := Lib.hid hxb4; replace hP4 := Lib.hid hP4; replace hP5 := Lib.hid hP5; replace htg := Lib.hid htg; replace hG4 := Lib.hid hG4
        go_wp2_with fail
        refine htg.out.mono ?_
        rintro e w5 ⟨r', q', rfl, hR5, hp5, hk5, hm5⟩
        obtain ⟨rfl, hB5⟩ := hBa.out.step hsa.out hR.out hp4.out hs4.out hm4.out ((Below.refl _ _).alloc (Nat.le_refl _) _) hR5 hp5 hk5 hm5
        have hG5 : G1 w whole a w5 := (hG4.out.below ((Below.refl _ _).alloc (Nat.le_refl _) _)).mod hm5 hBa.out.mine
        clear y1 y2 y3 y4 y5 y6 y7 y8 l4
        replace hR5 := Lib.hid hR5; replace hp5 := Lib.hid hp5; replace hk5 := Lib.hid hk5; replace hm5 := Lib.hid hm5; replace hB5 := Lib.hid hB5; replace hG5 := Lib.hid hG5
        go_wp2
        go_roundw
        case rel => exact ⟨k + 1, sb', pc', l', q', by go_num, by omega, hB5.out, hG5.out⟩
        case measure => simp [intOf]; omega
      · have hbx := hGr.out.box
        obtain ⟨y1, y2, y3, y4, y5, y6, y7, y8⟩ := actg_cells hbx
        have lr := blk_lt hbx
        have hea := early_any pb sb pc whole l a.fr a.tt a.v wr hBr.out.prof hBr.out.inv.loose hfr
        have hcg : ¬ (k : Int) < acts.length ∨ ((k : Int) < acts.length ∧ ¬ (k : Int) < 20) := by omega
        replace hc := Lib.hid hc; replace hbx := Lib.hid hbx; replace hea := Lib.hid hea
        rcases hcg with c1 | ⟨c1, c2⟩
        · go_wp2_with fail
          refine hea.out.mono ?_
          rintro e w6 ⟨t, is, rfl, hE, hb6⟩
          have hB6 := hBr.out.below hb6
          have hG6 := hGr.out.below hb6
          clear y1 y2 y3 y4 y5 y6 y7 y8 lr
          obtain ⟨y1, y2, y3, y4, y5, y6, y7, y8⟩ := actg_cells hG6.box
          have l6 := blk_lt hG6.box
          have hf6 := find_any gb gs cap po q _ 6 6 [2, 0, 1, 0, 7, -1] 3 a.v a.tt a.fr _ (hB6.pool.below ((Below.refl _ _).alloc (Nat.le_refl _) _)) (six_ints w6)
          replace hE := Lib.hid hE; replace hb6 := Lib.hid hb6; replace hB6 := Lib.hid hB6; replace hG6 := Lib.hid hG6; replace hf6 := Lib.hid hf6
          go_wp2_with fail
          refine hf6.out.mono ?_
          rintro e w7 ⟨t7, s7, n7, c7, xs7, is7, rfl, hR7, hz7, _, _, hb7⟩
          have hB67 : Below w6.heap.size w6 w7 := ((Below.refl _ _).alloc (Nat.le_refl _) _).trans (hb7.mono (by simp))
          have hB7 := hB6.out.below hB67
          have hG7 := hG6.out.below hB67
          clear y1 y2 y3 y4 y5 y6 y7 y8 l6
          obtain ⟨y1, y2, y3, y4, y5, y6, y7, y8⟩ := actg_cells hG7.box
          have l7 := blk_lt hG7.box
          have hf7 := find_any gb gs cap po q _ 1 1 [2] 1 a.v a.tt a.fr _ (hB7.pool.below ((Below.refl _ _).alloc (Nat.le_refl _) _)) (one_int w7 2)
          replace hR7 := Lib.hid hR7; replace hz7 := Lib.hid hz7; replace hb7 := Lib.hid hb7; replace hB67 := Lib.hid hB67; replace hB7 := Lib.hid hB7; replace hG7 := Lib.hid hG7; replace hf7 := Lib.hid hf7
          go_wp2_with fail
          refine hf7.out.mono ?_
          rintro e w8 ⟨t8, s8, n8, c8, xs8, is8, rfl, hR8, hz8, _, _, hb8⟩
          have hG8 : Below w.heap.size w w8 := (hG7.out.low.alloc (by have := hG7.out.low.size; omega) _).trans (hb8.mono (by have := hG7.out.low.size; simp; omega))
          obtain ⟨e1, e2, e3, e4, hlast⟩ := one_law hBr.out.same hE.out hR7.out hR8
          clear hE hR7 hR8
          subst e1; subst e2; subst e3; subst e4
          replace hb8 := Lib.hid hb8; replace hG8 := Lib.hid hG8
          cases is8 with
          | false =>
            clear hlast
            replace hz8 := Lib.hid hz8
            go_wp2
            go_ret
            exact ⟨rfl, hG8.out⟩
          | true =>
            obtain ⟨x7, rfl⟩ := hlast rfl
            have n7e : n7 = 3 := by have := hz7.out.len; rw [← this]; simpa [ints] using x7
            have n8e : n8 = 1 := by rw [← hz8.len]; rfl
            subst n7e; subst n8e
            obtain ⟨b8, off8, rfl, lt8, z8⟩ := hz8.cell 0 (by omega)
            rw [Nat.add_zero, show zi (ints [2]) 0 = 2 from rfl] at z8
            replace hz8 := Lib.hid hz8; replace x7 := Lib.hid x7
            go_wp2
            go_ret
            exact ⟨rfl, hG8.out⟩
        · go_wp2_with fail
          refine hea.out.mono ?_
          rintro e w6 ⟨t, is, rfl, hE, hb6⟩
          have hB6 := hBr.out.below hb6
          have hG6 := hGr.out.below hb6
          clear y1 y2 y3 y4 y5 y6 y7 y8 lr
          obtain ⟨y1, y2, y3, y4, y5, y6, y7, y8⟩ := actg_cells hG6.box
          have l6 := blk_lt hG6.box
          have hf6 := find_any gb gs cap po q _ 6 6 [2, 0, 1, 0, 7, -1] 3 a.v a.tt a.fr _ (hB6.pool.below ((Below.refl _ _).alloc (Nat.le_refl _) _)) (six_ints w6)
          replace hE := Lib.hid hE; replace hb6 := Lib.hid hb6; replace hB6 := Lib.hid hB6; replace hG6 := Lib.hid hG6; replace hf6 := Lib.hid hf6
          go_wp2_with fail
          refine hf6.out.mono ?_
          rintro e w7 ⟨t7, s7, n7, c7, xs7, is7, rfl, hR7, hz7, _, _, hb7⟩
          have hB67 : Below w6.heap.size w6 w7 := ((Below.refl _ _).alloc (Nat.le_refl _) _).trans (hb7.mono (by simp))
          have hB7 := hB6.out.below hB67
          have hG7 := hG6.out.below hB67
          clear y1 y2 y3 y4 y5 y6 y7 y8 l6
          obtain ⟨y1, y2, y3, y4, y5, y6, y7, y8⟩ := actg_cells hG7.box
          have l7 := blk_lt hG7.box
          have hf7 := find_any gb gs cap po q _ 1 1 [2] 1 a.v a.tt a.fr _ (hB7.pool.below ((Below.refl _ _).alloc (Nat.le_refl _) _)) (one_int w7 2)
          replace hR7 := Lib.hid hR7; replace hz7 := Lib.hid hz7; replace hb7 := Lib.hid hb7; replace hB67 := Lib.hid hB67; replace hB7 := Lib.hid hB7; replace hG7 := Lib.hid hG7; replace hf7 := Lib.hid hf7
          go_wp2_with fail
          refine hf7.out.mono ?_
          rintro e w8 ⟨t8, s8, n8, c8, xs8, is8, rfl, hR8, hz8, _, _, hb8⟩
          have hG8 : Below w.heap.size w w8 := (hG7.out.low.alloc (by have := hG7.out.low.size; omega) _).trans (hb8.mono (by have := hG7.out.low.size; simp; omega))
          obtain ⟨e1, e2, e3, e4, hlast⟩ := one_law hBr.out.same hE.out hR7.out hR8
          clear hE hR7 hR8
          subst e1; subst e2; subst e3; subst e4
          replace hb8 := Lib.hid hb8; replace hG8 := Lib.hid hG8
          cases is8 with
          | false =>
            clear hlast
            replace hz8 := Lib.hid hz8
            go_wp2
            go_ret
            exact ⟨rfl, hG8.out⟩
          | true =>
            obtain ⟨x7, rfl⟩ := hlast rfl
            have n7e : n7 = 3 := by have := hz7.out.len; rw [← this]; simpa [ints] using x7
            have n8e : n8 = 1 := by rw [← hz8.len]; rfl
            subst n7e; subst n8e
            obtain ⟨b8, off8, rfl, lt8, z8⟩ := hz8.cell 0 (by omega)
            rw [Nat.add_zero, show zi (ints [2]) 0 = 2 from rfl] at z8
            replace hz8 := Lib.hid hz8; replace x7 := Lib.hid x7
            go_wp2
            go_ret
            exact ⟨rfl, hG8.out⟩
end Go.Proofs.Ytpjajiambbobhaa
