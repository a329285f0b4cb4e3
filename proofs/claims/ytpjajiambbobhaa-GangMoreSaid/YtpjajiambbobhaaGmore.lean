/- corveelaw07.GangMore, walked: it answers true. Conditions: the rows that come in lie in memory. -/
import Derived.Test.YtpjajiambbobhaaGfirst
namespace Go.Proofs.Ytpjajiambbobhaa
open Go.RowKit

set_option maxRecDepth 100000 in
set_option maxHeartbeats 1600000 in
theorem gmore_any (vo : Option Addr) (n c : Nat) (vs : List V4) (sv : Value) (acts : List Actg) (a : Actg) (w : World) (hv : VecsAt w vo n vs) (ha : ActgsAt w sv acts) (hok : a.ok w) (hnm : a.many ≤ 9223372036854775807) (hnt : a.tt ≤ 9223372036854775807) :
    Calls Try.prog 8 #[.slice vo n c, sv, a.val] w fun e w' => e = .returned (.bool true) ∧ Below w.heap.size w w' := by
  have hG0 : GL w a (w.alloc a.obj) := GL.new hok
  replace hv := Lib.hid hv; replace ha := Lib.hid ha; replace hok := Lib.hid hok; replace hG0 := Lib.hid hG0
  go_enter Try.func8, Try.ntmps8
  go_wp2_with fail
  refine (gawake_any _).mono ?_
  rintro e w1 ⟨rfl, hb1⟩
  have hG1 : GL w a w1 := hG0.out.below hb1
  replace hG1 := Lib.hid hG1; replace hb1 := Lib.hid hb1
  go_wp2_with fail
  refine (gtaken_any vo n c vs sv acts w1 (hv.out.below hG1.out.low (Nat.le_refl _)) (ha.out.below hG1.out.low)).mono ?_
  rintro e w2 (⟨rfl, hb2⟩ | ⟨gb, gs, po, cap, ps, rfl, hp2, _, hb2⟩)
  · have hG2 : GL w a w2 := hG1.out.below hb2
    replace hG2 := Lib.hid hG2; replace hb2 := Lib.hid hb2
    go_wp2
    go_ret
    exact ⟨rfl, hG2.out.low⟩
  have hG2 : GL w a w2 := hG1.out.below hb2
  obtain ⟨x1, x2, x3, x4, x5, x6, x7, x8⟩ := actg_cells hG2.box
  have l2 := blk_lt hG2.box
  by_cases q1 : 60 < a.n
  · have d1 : decide (60 < (a.n : Int)) = true := by simp; omega
    replace hG2 := Lib.hid hG2; replace hb2 := Lib.hid hb2; replace hp2 := Lib.hid hp2; replace q1 := Lib.hid q1
    go_wp2
    go_ret
    exact ⟨rfl, hG2.out.low⟩
  have d1 : decide (60 < (a.n : Int)) = false := by simp; omega
  by_cases q2 : a.many < 2
  · have d2 : decide (a.many < 2) = true := by simpa using q2
    replace hG2 := Lib.hid hG2; replace hb2 := Lib.hid hb2; replace hp2 := Lib.hid hp2; replace q1 := Lib.hid q1; replace q2 := Lib.hid q2
    go_wp2
    go_ret
    exact ⟨rfl, hG2.out.low⟩
  have d2 : decide (a.many < 2) = false := by simpa using q2
  by_cases q3 : a.tt < 2
  · have d3 : decide (a.tt < 2) = true := by simpa using q3
    replace hG2 := Lib.hid hG2; replace hb2 := Lib.hid hb2; replace hp2 := Lib.hid hp2; replace q1 := Lib.hid q1; replace q2 := Lib.hid q2; replace q3 := Lib.hid q3
    go_wp2
    go_ret
    exact ⟨rfl, hG2.out.low⟩
  have d3 : decide (a.tt < 2) = false := by simpa using q3
  have hf := find_any gb gs cap po ps a.ao a.n a.c a.zs a.many a.v a.tt a.fr w2 hp2 hG2.ok.1
  have e1 : IntKind.i64.wrap (a.many - 1) = a.many - 1 := IntWalk.i64_in _ (by omega)
  have e2 : IntKind.i64.wrap (a.tt - 1) = a.tt - 1 := IntWalk.i64_in _ (by omega)
  replace hf := Lib.hid hf; replace hG2 := Lib.hid hG2; replace hb2 := Lib.hid hb2; replace hp2 := Lib.hid hp2; replace q1 := Lib.hid q1; replace q2 := Lib.hid q2; replace q3 := Lib.hid q3
  replace hnm := Lib.hid hnm; replace hnt := Lib.hid hnt
  go_wp2_with fail
  refine hf.out.mono ?_
  rintro e w3 ⟨t, so, m, c2, xs, is, rfl, hR, _, _, _, hb3⟩
  have hG3 : GL w a w3 := hG2.out.below hb3
  have hp3 := hp2.out.below hb3
  clear x1 x2 x3 x4 x5 x6 x7 x8 l2
  cases is with
  | false =>
    replace hR := Lib.hid hR; replace hG3 := Lib.hid hG3; replace hb3 := Lib.hid hb3; replace hp3 := Lib.hid hp3
    go_wp2
    go_ret
    exact ⟨rfl, hG3.out.low⟩
  | true =>
    have F := hR.found
    obtain ⟨x1, x2, x3, x4, x5, x6, x7, x8⟩ := actg_cells hG3.box
    have l3 := blk_lt hG3.box
    have hf3 := find_any gb gs cap po ps a.ao a.n a.c a.zs (a.many - 1) a.v a.tt a.fr w3 hp3 hG3.ok.1
    replace hR := Lib.hid hR; replace F := Lib.hid F; replace hf3 := Lib.hid hf3; replace hG3 := Lib.hid hG3; replace hb3 := Lib.hid hb3; replace hp3 := Lib.hid hp3
    go_wp2_with fail
    refine hf3.out.mono ?_
    rintro e w4 ⟨t4, s4, n4, c4, xs4, is4, rfl, hR4, hz4, _, _, hb4⟩
    have hG4 : GL w a w4 := hG3.out.below hb4
    have hp4 := hp3.out.below hb4
    obtain ⟨rfl, y4, z4⟩ := F.out.sooner hR4 (by have := q2.out; omega) F.out.ticks1 F.out.right (by omega) (fun j h => h)
    have hn4 : (n4 : Int) = a.many - 1 := by rw [← z4, ← hz4.len]; simp [ints]
    have d4 : decide (t4 ≤ t) = true := by simpa using y4
    have d5 : ((n4 : Int) == a.many - 1) = true := by simpa using hn4
    clear x1 x2 x3 x4 x5 x6 x7 x8 l3 hz4 y4 z4 hn4
    obtain ⟨x1, x2, x3, x4, x5, x6, x7, x8⟩ := actg_cells hG4.box
    have l4 := blk_lt hG4.box
    have hf4 := find_any gb gs cap po ps a.ao a.n a.c a.zs a.many a.v (a.tt - 1) a.fr w4 hp4 hG4.ok.1
    replace hR4 := Lib.hid hR4; replace hf4 := Lib.hid hf4; replace hG4 := Lib.hid hG4; replace hb4 := Lib.hid hb4; replace hp4 := Lib.hid hp4
    go_wp2_with fail
    refine hf4.out.mono ?_
    rintro e w5 ⟨t5, s5, n5, c5, xs5, is5, rfl, hR5, _, _, _, hb5⟩
    have hG5 : GL w a w5 := hG4.out.below hb5
    have hp5 := hp4.out.below hb5
    obtain ⟨rfl, y5, _⟩ := F.out.sooner hR5 F.out.many1 (by have := q3.out; omega) F.out.right (Int.le_refl _) (fun j h => pick_less (fun i hi => (hp2.out.inv i hi).loose) (by have := F.out.ge; omega) (by have := q3.out; omega) j h)
    have d6 : decide (t5 ≤ t) = true := by simpa using y5
    clear x1 x2 x3 x4 x5 x6 x7 x8 l4 y5
    obtain ⟨x1, x2, x3, x4, x5, x6, x7, x8⟩ := actg_cells hG5.box
    have l5 := blk_lt hG5.box
    have hf5 := find_any gb gs cap po ps a.ao a.n a.c a.zs a.many V4.zero a.tt a.fr w5 hp5 hG5.ok.1
    replace hR5 := Lib.hid hR5; replace hf5 := Lib.hid hf5; replace hG5 := Lib.hid hG5; replace hb5 := Lib.hid hb5; replace hp5 := Lib.hid hp5
    go_wp2_with fail
    refine hf5.out.mono ?_
    rintro e w6 ⟨t6, s6, n6, c6, xs6, is6, rfl, hR6, _, _, _, hb6⟩
    have hG6 : GL w a w6 := hG5.out.below hb6
    obtain ⟨rfl, y6, _⟩ := F.out.sooner hR6 F.out.many1 F.out.ticks1 (by decide) (Int.le_refl _) (fun j h => pick_zero hp2.out.inv (by have := F.out.ge; omega) F.out.ticks1 j h)
    have d7 : decide (t6 ≤ t) = true := by simpa using y6
    clear x1 x2 x3 x4 x5 x6 x7 x8 l5 y6
    obtain ⟨x1, x2, x3, x4, x5, x6, x7, x8⟩ := actg_cells hG6.box
    have l6 := blk_lt hG6.box
    replace hR6 := Lib.hid hR6; replace hG6 := Lib.hid hG6; replace hb6 := Lib.hid hb6
    go_wp2
    go_ret
    exact ⟨rfl, hG6.out.low⟩
end Go.Proofs.Ytpjajiambbobhaa
