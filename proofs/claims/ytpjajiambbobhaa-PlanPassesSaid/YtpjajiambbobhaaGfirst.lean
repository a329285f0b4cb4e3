/- corveelaw07.GangFirst, walked: it answers true. Conditions: the rows that come in lie in memory. -/
import Derived.Test.YtpjajiambbobhaaGact
import Derived.Test.YtpjajiambbobhaaGawake
import Derived.Test.YtpjajiambbobhaaGpl
namespace Go.Proofs.Ytpjajiambbobhaa
open Go.RowKit

def Actg.obj (a : Actg) : Obj := .cells #[.int .i64 a.kind, .slice a.ao a.n a.c, .int .i64 a.fr, .int .i64 a.tt, .int .i64 a.many, .int .i64 a.v.a, .int .i64 a.v.b, .int .i64 a.v.c, .int .i64 a.v.d] 50 (0, 0)
theorem actg_cells {w : World} {b : Nat} {a : Actg} (h : w.heap[b]? = some a.obj) : w.cell? ⟨b, 1, none⟩ = some (.slice a.ao a.n a.c) ∧ w.cell? ⟨b, 2, none⟩ = some (.int .i64 a.fr) ∧ w.cell? ⟨b, 3, none⟩ = some (.int .i64 a.tt) ∧ w.cell? ⟨b, 4, none⟩ = some (.int .i64 a.many) ∧
    w.cell? ⟨b, 5, none⟩ = some (.int .i64 a.v.a) ∧ w.cell? ⟨b, 6, none⟩ = some (.int .i64 a.v.b) ∧ w.cell? ⟨b, 7, none⟩ = some (.int .i64 a.v.c) ∧ w.cell? ⟨b, 8, none⟩ = some (.int .i64 a.v.d) :=
  ⟨blk_cell h 1, blk_cell h 2, blk_cell h 3, blk_cell h 4, blk_cell h 5, blk_cell h 6, blk_cell h 7, blk_cell h 8⟩

/-- what stands throughout these laws -/
structure GL (w : World) (a : Actg) (wr : World) : Prop where
  box : wr.heap[w.heap.size]? = some a.obj
  ok : a.ok wr
  low : Below w.heap.size w wr
theorem GL.below {w : World} {a : Actg} {wr w' : World} (h : GL w a wr) (hb : Below wr.heap.size wr w') : GL w a w' := ⟨blk_below hb h.box (blk_lt h.box), h.ok.below hb, h.low.trans (hb.mono h.low.size)⟩
theorem GL.new {w : World} {a : Actg} (h : a.ok w) : GL w a (w.alloc a.obj) := ⟨blk_new _ _, h.below ((Below.refl _ _).alloc (Nat.le_refl _) _), (Below.refl _ _).alloc (Nat.le_refl _) _⟩

set_option maxRecDepth 100000 in
set_option maxHeartbeats 1600000 in
theorem gfirst_any (vo : Option Addr) (n c : Nat) (vs : List V4) (sv : Value) (acts : List Actg) (a : Actg) (w : World) (hv : VecsAt w vo n vs) (ha : ActgsAt w sv acts) (hok : a.ok w) :
    Calls Try.prog 10 #[.slice vo n c, sv, a.val] w fun e w' => e = .returned (.bool true) ∧ Below w.heap.size w w' := by
  have hG0 : GL w a (w.alloc a.obj) := GL.new hok
  replace hv := Lib.hid hv; replace ha := Lib.hid ha; replace hok := Lib.hid hok; replace hG0 := Lib.hid hG0
  go_enter Try.func10, Try.ntmps10
  go_wp2_with fail
  refine (gawake_any _).mono ?_
  rintro e w1 ⟨rfl, hb1⟩
  have hG1 : GL w a w1 := hG0.out.below hb1
  replace hG1 := Lib.hid hG1; replace hb1 := Lib.hid hb1
  go_wp2_with fail
  refine (gtaken_any vo n c vs sv acts w1 (hv.out.below hG1.out.low (Nat.le_refl _)) (ha.out.below hG1.out.low)).mono ?_
  rintro e w2 (⟨rfl, hb2⟩ | ⟨gb, gs, po, cap, ps, rfl, hp2, _, hb2⟩)
  · have hG2 : GL w a w2 := hG1.out.below hb2
    replace hG2 := Lib.hid hG2; replace hb2 := Lib.hid hb2
    go_wp2
    go_ret
    exact ⟨rfl, hG2.out.low⟩
  have hG2 : GL w a w2 := hG1.out.below hb2
  obtain ⟨x1, x2, x3, x4, x5, x6, x7, x8⟩ := actg_cells hG2.box
  have l2 := blk_lt hG2.box
  by_cases q1 : 60 < a.n
  · have d1 : decide (60 < (a.n : Int)) = true := by simp; omega
    replace hG2 := Lib.hid hG2; replace hb2 := Lib.hid hb2; replace hp2 := Lib.hid hp2; replace q1 := Lib.hid q1
    go_wp2
    go_ret
    exact ⟨rfl, hG2.out.low⟩
  have d1 : decide (60 < (a.n : Int)) = false := by simp; omega
  have hf := find_any gb gs cap po ps a.ao a.n a.c a.zs a.many a.v a.tt a.fr w2 hp2 hG2.ok.1
  replace hf := Lib.hid hf; replace hG2 := Lib.hid hG2; replace hb2 := Lib.hid hb2; replace hp2 := Lib.hid hp2; replace q1 := Lib.hid q1
  go_wp2_with fail
  refine hf.out.mono ?_
  rintro e w3 ⟨t, so, m, c2, xs, is, rfl, hR, hz3, hnc, hso, hb3⟩
  have hG3 : GL w a w3 := hG2.out.below hb3
  have hp3 := hp2.out.below hb3
  clear x1 x2 x3 x4 x5 x6 x7 x8 l2
  obtain ⟨x1, x2, x3, x4, x5, x6, x7, x8⟩ := actg_cells hG3.box
  have l3 := blk_lt hG3.box
  obtain ⟨A, hA⟩ : ∃ A, A = max a.fr 0 := ⟨_, rfl⟩
  have hmx : (if a.fr < 0 then 0 else a.fr) = A := by rw [hA]; omega
  clear hz3 hnc hso
  replace hG3 := Lib.hid hG3; replace hb3 := Lib.hid hb3; replace hp3 := Lib.hid hp3
  cases is with
  | false =>
    replace hR := Lib.hid hR; replace hA := Lib.hid hA
    go_wp2
    go_ret
    exact ⟨rfl, hG3.out.low⟩
  | true =>
    have F := hR.found
    by_cases q2 : t = A
    · have d2 : (t == A) = true := by simpa using q2
      replace hR := Lib.hid hR; replace hA := Lib.hid hA; replace F := Lib.hid F; replace q2 := Lib.hid q2
      go_wp2
      go_ret
      exact ⟨rfl, hG3.out.low⟩
    have d2 : (t == A) = false := by simpa using q2
    have g1 := F.ge; have g2 := F.fin; have g3 := F.ticks1
    rw [← hA] at g1
    have hA0 : 0 ≤ A := by omega
    have e1 : IntKind.i64.wrap (A + a.tt) = A + a.tt := IntWalk.i64_in _ (by omega)
    have e2 : IntKind.i64.wrap (t - 1) = t - 1 := IntWalk.i64_in _ (by omega)
    have e3 : IntKind.i64.wrap (t - 1 + a.tt) = t - 1 + a.tt := IntWalk.i64_in _ (by omega)
    have e4 : IntKind.i64.wrap (t + a.tt) = t + a.tt := IntWalk.i64_in _ (by omega)
    have hop : ∀ u, 0 ≤ u → u ≤ t → opn ps a.zs a.v u (u + a.tt) = sel ps a.zs a.tt a.v u := fun u h0 h1 => opn_sel hp2.out.inv F.right h0 g3 (by omega)
    have i1 := hop A hA0 (by omega)
    have i2 := hop (t - 1) (by omega) (by omega)
    have i3 := hop t (by omega) (by omega)
    have k1 := F.first A (by rw [hA]; omega) (by omega)
    have k2 := F.first (t - 1) (by rw [← hA]; omega) (by omega)
    have k3 : a.many ≤ ((sel ps a.zs a.tt a.v t).length : Int) := by
      obtain ⟨r, hr⟩ := F.pre
      have := F.len
      rw [hr, List.length_append]; omega
    replace hR := Lib.hid hR; replace hA := Lib.hid hA; replace F := Lib.hid F; replace q2 := Lib.hid q2; replace hop := Lib.hid hop
    replace g1 := Lib.hid g1; replace g2 := Lib.hid g2; replace g3 := Lib.hid g3; replace hA0 := Lib.hid hA0
    replace i1 := Lib.hid i1; replace i2 := Lib.hid i2; replace i3 := Lib.hid i3; replace k1 := Lib.hid k1; replace k2 := Lib.hid k2; replace k3 := Lib.hid k3
    have ho1 := openg_any gb gs cap po ps a.ao a.n a.c a.zs A (A + a.tt) a.v w3 hp3.out hG3.out.ok.1
    replace ho1 := Lib.hid ho1
    go_wp2_with fail
    refine ho1.out.mono ?_
    rintro e w4 ⟨s4, n4, c4, rfl, hz4, _, _, hb4⟩
    have hG4 : GL w a w4 := hG3.out.below hb4
    have hp4 := hp3.out.below hb4
    have h4 : (n4 : Int) < a.many := by have := hz4.len; have := k1.out; rw [i1.out] at hz4; rw [← hz4.len]; simpa [ints] using this
    have b4 : decide ((n4 : Int) < a.many) = true := by simpa using h4
    clear x1 x2 x3 x4 x5 x6 x7 x8 l3 e1 hz4 h4
    obtain ⟨x1, x2, x3, x4, x5, x6, x7, x8⟩ := actg_cells hG4.box
    have l4 := blk_lt hG4.box
    have ho2 := openg_any gb gs cap po ps a.ao a.n a.c a.zs (t - 1) (t - 1 + a.tt) a.v w4 hp4 hG4.ok.1
    replace ho2 := Lib.hid ho2; replace hG4 := Lib.hid hG4; replace hb4 := Lib.hid hb4; replace hp4 := Lib.hid hp4
    go_wp2_with fail
    refine ho2.out.mono ?_
    rintro e w5 ⟨s5, n5, c5, rfl, hz5, _, _, hb5⟩
    have hG5 : GL w a w5 := hG4.out.below hb5
    have hp5 := hp4.out.below hb5
    have h5 : (n5 : Int) < a.many := by have := k2.out; rw [i2.out] at hz5; rw [← hz5.len]; simpa [ints] using this
    have b5 : decide ((n5 : Int) < a.many) = true := by simpa using h5
    clear x1 x2 x3 x4 x5 x6 x7 x8 l4 e2 e3 hz5 h5
    obtain ⟨x1, x2, x3, x4, x5, x6, x7, x8⟩ := actg_cells hG5.box
    have l5 := blk_lt hG5.box
    have ho3 := openg_any gb gs cap po ps a.ao a.n a.c a.zs t (t + a.tt) a.v w5 hp5 hG5.ok.1
    replace ho3 := Lib.hid ho3; replace hG5 := Lib.hid hG5; replace hb5 := Lib.hid hb5; replace hp5 := Lib.hid hp5
    go_wp2_with fail
    refine ho3.out.mono ?_
    rintro e w6 ⟨s6, n6, c6, rfl, hz6, _, _, hb6⟩
    have hG6 : GL w a w6 := hG5.out.below hb6
    have h6 : a.many ≤ (n6 : Int) := by have := k3.out; rw [i3.out] at hz6; rw [← hz6.len]; simpa [ints] using this
    have b6 : decide (a.many ≤ (n6 : Int)) = true := by simpa using h6
    clear x1 x2 x3 x4 x5 x6 x7 x8 l5 e4 hz6 h6
    obtain ⟨x1, x2, x3, x4, x5, x6, x7, x8⟩ := actg_cells hG6.box
    have l6 := blk_lt hG6.box
    replace hG6 := Lib.hid hG6; replace hb6 := Lib.hid hb6
    go_wp2
    go_ret
    exact ⟨rfl, hG6.out.low⟩
end Go.Proofs.Ytpjajiambbobhaa
