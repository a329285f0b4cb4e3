/- corveelaw07.GangNone, walked: it answers true. Condition: the act's places lie in memory. -/
import Derived.Test.YtpjajiambbobhaaGnonep
import Derived.Test.YtpjajiambbobhaaGfirst
namespace Go.Proofs.Ytpjajiambbobhaa
open Go.RowKit

structure NP (w : World) (gb gs : Nat) (po : Option Addr) (cap : Nat) (ps : List Nd) (wr : World) : Prop where
  pool : Pool wr gb gs po cap ps
  still : Still ps
  mine : ∀ b, Mine ps b → w.heap.size ≤ b
  low : Below w.heap.size w wr
theorem NP.below {w wr w' : World} {gb gs cap : Nat} {po : Option Addr} {ps : List Nd} (h : NP w gb gs po cap ps wr) (hb : Below wr.heap.size wr w') : NP w gb gs po cap ps w' := ⟨h.pool.below hb, h.still, h.mine, h.low.trans (hb.mono h.low.size)⟩
theorem NP.step {w wr w' : World} {gb gs cap : Nat} {po : Option Addr} {ps ps' : List Nd} (h : NP w gb gs po cap ps wr) (hp : Pool w' gb gs po cap ps') (hk : Kin wr ps ps') (hm : Mod (Mine ps) wr w') (hs : SameL ps ps') : NP w gb gs po cap ps' w' :=
  ⟨hp, h.still.kin hk hs, kin_low hk h.low.size h.mine, below_mod h.low hm h.mine h.low.size⟩
theorem NP.alloc {w wr : World} {gb gs cap : Nat} {po : Option Addr} {ps : List Nd} (h : NP w gb gs po cap ps wr) (o : Obj) : NP w gb gs po cap ps (wr.alloc o) := h.below ((Below.refl _ _).alloc (Nat.le_refl _) o)
theorem NP.off {w wr : World} {gb gs cap : Nat} {po : Option Addr} {ps : List Nd} (h : NP w gb gs po cap ps wr) : Off (some ⟨wr.heap.size, 0, none⟩) (Mine ps) := fun b off e hm => by cases e; have := h.pool.mine_lt hm; omega

theorem both_vecs (w : World) : VecsAt (w.alloc (.cells #[.int .i64 1, .int .i64 1, .int .i64 1, .int .i64 1, .int .i64 2, .int .i64 2, .int .i64 2, .int .i64 2] 23 (0, 0))) (some ⟨w.heap.size, 0, none⟩) 2 [ones4, twos4] := by
  refine ⟨rfl, by omega, fun i hi => ⟨w.heap.size, 0, rfl, by simp, ?_⟩⟩
  have hb := fun o => blk_cell (blk_new w (.cells #[.int .i64 1, .int .i64 1, .int .i64 1, .int .i64 1, .int .i64 2, .int .i64 2, .int .i64 2, .int .i64 2] 23 (0, 0))) o
  rcases two hi with rfl | rfl
  · exact ⟨hb 0, hb 1, hb 2, hb 3⟩
  · exact ⟨hb 4, hb 5, hb 6, hb 7⟩

set_option maxRecDepth 100000 in
set_option maxHeartbeats 3200000 in
theorem gnone_any (a : Actg) (w : World) (hok : a.ok w) : Calls Try.prog 12 #[a.val] w fun e w' => e = .returned (.bool true) ∧ Below w.heap.size w w' := by
  have hG0 : GL w a (w.alloc a.obj) := GL.new hok
  have heq := eq23 ⟨0, 0, 0, 0⟩ ⟨0, 0, 0, 0⟩
  have heq1 := eq23 ⟨1, 1, 1, 1⟩ ⟨1, 1, 1, 1⟩
  have heq2 := eq23 ⟨2, 2, 2, 2⟩ ⟨2, 2, 2, 2⟩
  simp at heq heq1 heq2
  replace hok := Lib.hid hok; replace hG0 := Lib.hid hG0
  go_enter Try.func12, Try.ntmps12
  go_wp2_with fail
  refine (gawake_any _).mono ?_
  rintro e w1 ⟨rfl, hb1⟩
  have hG1 : GL w a w1 := hG0.out.below hb1
  obtain ⟨x1, x2, x3, x4, x5, x6, x7, x8⟩ := actg_cells hG1.box
  have l1 := blk_lt hG1.box
  replace hG1 := Lib.hid hG1; replace hb1 := Lib.hid hb1
  by_cases q1 : 60 < a.n
  · have d1 : decide (60 < (a.n : Int)) = true := by simp; omega
    replace q1 := Lib.hid q1
    go_wp2
    go_ret
    exact ⟨rfl, hG1.out.low⟩
  have d1 : decide (60 < (a.n : Int)) = false := by simp; omega
  replace q1 := Lib.hid q1
  go_wp2_with fail
  refine (find_nil _ a.many a.v a.tt a.fr _).mono ?_
  rintro e w2 ⟨rfl, hb2⟩
  have hG2 := hG1.out.below hb2
  clear x1 x2 x3 x4 x5 x6 x7 x8 l1
  obtain ⟨x1, x2, x3, x4, x5, x6, x7, x8⟩ := actg_cells hG2.box
  have l2 := blk_lt hG2.box
  replace hG2 := Lib.hid hG2; replace hb2 := Lib.hid hb2
  go_wp2_with fail
  refine (gtake_nil _ a.fr a.tt a.v _).mono ?_
  rintro e w3 ⟨rfl, hb3⟩
  have hG3 := hG2.out.below hb3
  clear x1 x2 x3 x4 x5 x6 x7 x8 l2
  obtain ⟨x1, x2, x3, x4, x5, x6, x7, x8⟩ := actg_cells hG3.box
  have l3 := blk_lt hG3.box
  replace hG3 := Lib.hid hG3; replace hb3 := Lib.hid hb3
  go_wp2_with fail
  refine (ggive_nil _ a.fr a.tt a.v _).mono ?_
  rintro e w4 ⟨rfl, hb4⟩
  have hG4 := hG3.out.below hb4
  clear x1 x2 x3 x4 x5 x6 x7 x8 l3
  obtain ⟨x1, x2, x3, x4, x5, x6, x7, x8⟩ := actg_cells hG4.box
  have l4 := blk_lt hG4.box
  replace hG4 := Lib.hid hG4; replace hb4 := Lib.hid hb4
  go_wp2_with fail
  refine (freeg_nil 0 a.fr a.tt _).mono ?_
  rintro e w5 ⟨rfl, hb5⟩
  have hG5 := hG4.out.below hb5
  clear x1 x2 x3 x4 x5 x6 x7 x8 l4
  obtain ⟨x1, x2, x3, x4, x5, x6, x7, x8⟩ := actg_cells hG5.box
  have l5 := blk_lt hG5.box
  replace hG5 := Lib.hid hG5; replace hb5 := Lib.hid hb5
  go_wp2_with fail
  refine (open_nil _ a.fr a.tt a.v _).mono ?_
  rintro e w6 ⟨rfl, hb6⟩
  have hB6 : Below w.heap.size w w6 := (hG5.out.below hb6).low
  clear x1 x2 x3 x4 x5 x6 x7 x8 l5
  replace hb6 := Lib.hid hb6
  have hng := newg_any (some ⟨w6.heap.size, 0, none⟩) 2 2 [ones4, twos4] _ (both_vecs w6)
  replace hB6 := Lib.hid hB6; replace hng := Lib.hid hng
  go_wp2_with fail
  refine hng.out.mono ?_
  rintro e w7 (⟨hno, _⟩ | ⟨_, _, gb, gs, po, cap, ps, rfl, hgb, hp, hlen, hst, hmine, hb7⟩)
  · refine absurd ⟨by omega, fun i hi => ?_⟩ hno
    rcases two hi with rfl | rfl <;> decide
  clear hgb
  have hN7 : NP w gb gs po cap ps w7 := ⟨hp, ⟨hlen, fun i hi => (hst i hi).1, fun i hi => (hst i hi).2⟩, fun b hb => by have := hmine b hb; have := hB6.out.size; simp at *; omega,
    (hB6.out.alloc (by have := hB6.out.size; omega) _).trans (hb7.mono (by have := hB6.out.size; simp; omega))⟩
  clear hp hlen hst hmine
  have hN7a := hN7.alloc (.cells #[.int .i64 1, .int .i64 0] 3 (0, 0))
  have t7 := gtake_any gb gs cap po ps _ 2 2 [1, 0] 0 5 ⟨1, 0, 0, 0⟩ _ hN7a.pool (two_ints w7 1 0) (fun _ => hN7.off) (Nat.le_refl _)
  replace hb7 := Lib.hid hb7; replace hN7 := Lib.hid hN7; replace hN7a := Lib.hid hN7a; replace t7 := Lib.hid t7
  go_wp2_with fail
  refine t7.out.mono ?_
  rintro e w8 ⟨r8, ps8, rfl, hT8, hp8, hk8, hm8⟩
  obtain ⟨rfl, hs8⟩ := hN7.out.still.nogang no_back hT8
  have hN8 := hN7a.out.step hp8 hk8 hm8 hs8
  clear hT8 hp8 hk8 hm8 hs8
  have hN8a := hN8.alloc (.cells #[.int .i64 0, .int .i64 0] 3 (0, 0))
  have t8 := gtake_any gb gs cap po ps8 _ 2 2 [0, 0] 0 5 ⟨1, 0, 0, 0⟩ _ hN8a.pool (two_ints w8 0 0) (fun _ => hN8.off) (Nat.le_refl _)
  replace hN8 := Lib.hid hN8; replace hN8a := Lib.hid hN8a; replace t8 := Lib.hid t8
  go_wp2_with fail
  refine t8.out.mono ?_
  rintro e w9 ⟨r9, ps9, rfl, hT9, hp9, hk9, hm9⟩
  obtain ⟨rfl, hs9⟩ := hN8.out.still.nogang no_same hT9
  have hN9 := hN8a.out.step hp9 hk9 hm9 hs9
  clear hT9 hp9 hk9 hm9 hs9
  have hN9a := hN9.alloc (.cells #[.int .i64 0, .int .i64 2] 3 (0, 0))
  have t9 := gtake_any gb gs cap po ps9 _ 2 2 [0, 2] 0 5 ⟨1, 0, 0, 0⟩ _ hN9a.pool (two_ints w9 0 2) (fun _ => hN9.off) (Nat.le_refl _)
  replace hN9 := Lib.hid hN9; replace hN9a := Lib.hid hN9a; replace t9 := Lib.hid t9
  go_wp2_with fail
  refine t9.out.mono ?_
  rintro e w10 ⟨r10, ps10, rfl, hT10, hp10, hk10, hm10⟩
  obtain ⟨rfl, hs10⟩ := hN9.out.still.nogang no_high hT10
  have hN10 := hN9a.out.step hp10 hk10 hm10 hs10
  clear hT10 hp10 hk10 hm10 hs10
  have t10 := gtake_any gb gs cap po ps10 none 0 0 [] 0 5 ⟨1, 0, 0, 0⟩ w10 hN10.pool (ints_nil w10) (fun h => absurd h (by omega)) (Nat.le_refl _)
  replace hN10 := Lib.hid hN10; replace t10 := Lib.hid t10
  go_wp2_with fail
  refine t10.out.mono ?_
  rintro e w11 ⟨r11, ps11, rfl, hT11, hp11, hk11, hm11⟩
  obtain ⟨rfl, hs11⟩ := hN10.out.still.nogang no_one hT11
  have hN11 := hN10.out.step hp11 hk11 hm11 hs11
  clear hT11 hp11 hk11 hm11 hs11
  have hN11a := hN11.alloc (.cells #[.int .i64 0, .int .i64 1] 3 (0, 0))
  have t11 := gtake_any gb gs cap po ps11 _ 2 2 [0, 1] 0 5 ⟨2, 0, 0, 0⟩ _ hN11a.pool (two_ints w11 0 1) (fun _ => hN11.off) (Nat.le_refl _)
  replace hN11 := Lib.hid hN11; replace hN11a := Lib.hid hN11a; replace t11 := Lib.hid t11
  go_wp2_with fail
  refine t11.out.mono ?_
  rintro e w12 ⟨r12, ps12, rfl, hT12, hp12, hk12, hm12⟩
  obtain ⟨rfl, hs12⟩ := hN11.out.still.busy hT12
  have hN12 := hN11a.out.step hp12 hk12 hm12 hs12
  clear hT12 hp12 hk12 hm12 hs12
  have hN12a := hN12.alloc (.cells #[.int .i64 0, .int .i64 1] 3 (0, 0))
  have t12 := ggive_any gb gs cap po ps12 _ 2 2 [0, 1] 0 5 ⟨1, 0, 0, 0⟩ _ hN12a.pool (two_ints w12 0 1) (fun _ => hN12.off) (Nat.le_refl _)
  replace hN12 := Lib.hid hN12; replace hN12a := Lib.hid hN12a; replace t12 := Lib.hid t12
  go_wp2_with fail
  refine t12.out.mono ?_
  rintro e w13 ⟨r13, ps13, rfl, hT13, hp13, hk13, hm13⟩
  obtain ⟨rfl, hs13⟩ := hN12.out.still.idle hT13
  have hN13 := hN12a.out.step hp13 hk13 hm13 hs13
  clear hT13 hp13 hk13 hm13 hs13
  have f1 := freeg_any gb gs cap po ps13 0 0 5 w13 hN13.pool
  rw [hN13.still.free.1, show ones4 = ⟨1, 1, 1, 1⟩ from rfl] at f1
  replace hN13 := Lib.hid hN13; replace f1 := Lib.hid f1
  go_wp2_with fail
  refine f1.out.mono ?_
  rintro e w14 ⟨rfl, hb14⟩
  have hN14 := hN13.out.below hb14
  have f2 := freeg_any gb gs cap po ps13 1 0 5 w14 hN14.pool
  rw [hN14.still.free.2, show twos4 = ⟨2, 2, 2, 2⟩ from rfl] at f2
  replace hN14 := Lib.hid hN14; replace f2 := Lib.hid f2; replace hb14 := Lib.hid hb14
  go_wp2_with fail
  refine f2.out.mono ?_
  rintro e w15 ⟨rfl, hb15⟩
  have hN15 := (hN14.out.below hb15).low
  replace hN15 := Lib.hid hN15; replace hb15 := Lib.hid hb15
  go_wp2
  go_ret
  exact ⟨rfl, hN15.out⟩
end Go.Proofs.Ytpjajiambbobhaa
