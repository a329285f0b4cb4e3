/- A profile that is none: what its methods answer; corveelaw06.ProfileNone, walked: it answers true. Conditions: the numbers that come in are a machine's. -/
import Derived.Test.YtpjajiambbobhaaTake
import Derived.Test.YtpjajiambbobhaaGive
import Derived.Test.YtpjajiambbobhaaClone
import Derived.Test.YtpjajiambbobhaaLaw
import Derived.Test.YtpjajiambbobhaaAwake
import Derived.Test.YtpjajiambbobhaaBack
namespace Go.Proofs.Ytpjajiambbobhaa
open Go.RowKit

theorem take_none (fr tt : Int) (v : V4) (w : World) : Calls Try.prog 23 #[.pointer none, .int .i64 fr, .int .i64 tt, v.val] w fun e w' => e = .returned (.int .i64 1) ∧ Below w.heap.size w w' := by
  go_enter Try.func23, Try.ntmps23
  go_wp2
  go_ret
  exact ⟨rfl, (Below.refl _ _).alloc (Nat.le_refl _) _⟩
theorem give_none (fr tt : Int) (v : V4) (w : World) : Calls Try.prog 25 #[.pointer none, .int .i64 fr, .int .i64 tt, v.val] w fun e w' => e = .returned (.int .i64 1) ∧ Below w.heap.size w w' := by
  go_enter Try.func25, Try.ntmps25
  go_wp2
  go_ret
  exact ⟨rfl, (Below.refl _ _).alloc (Nat.le_refl _) _⟩
theorem early_none (fr tt : Int) (v : V4) (w : World) : Calls Try.prog 26 #[.pointer none, .int .i64 fr, .int .i64 tt, v.val] w fun e w' => e = .returned (.tuple #[.int .i64 0, .bool false]) ∧ Below w.heap.size w w' := by
  go_enter Try.func26, Try.ntmps26
  go_wp2
  go_step3
  go_wp2
  rw [Exit.noGoto_ret]
  go_ret2
  exact ⟨rfl, (Below.refl _ _).alloc (Nat.le_refl _) _⟩
set_option maxRecDepth 100000 in
theorem at_none (t : Int) (w : World) : Calls Try.prog 30 #[.pointer none, .int .i64 t] w fun e w' => e = .returned (⟨0, 0, 0, 0⟩ : V4).val ∧ Below w.heap.size w w' := by
  go_enter Try.func30, Try.ntmps30
  go_wp2
  refine bodyPost_ret (v := (⟨0, 0, 0, 0⟩ : V4).val) (by simp [results, Try.results30, go_sem]) rfl ⟨rfl, ?_⟩
  exact (Below.refl _ _).alloc (Nat.le_refl _) _
set_option maxRecDepth 100000 in
theorem free_none (fr tt : Int) (w : World) : Calls Try.prog 22 #[.pointer none, .int .i64 fr, .int .i64 tt] w fun e w' => e = .returned (⟨0, 0, 0, 0⟩ : V4).val ∧ Below w.heap.size w w' := by
  go_enter Try.func22, Try.ntmps22
  go_wp2
  refine bodyPost_ret (v := (⟨0, 0, 0, 0⟩ : V4).val) (by simp [results, Try.results22, go_sem]) rfl ⟨rfl, ?_⟩
  exact (Below.refl _ _).alloc (Nat.le_refl _) _

def one4 : V4 := ⟨1, 1, 1, 1⟩
def bad4 : V4 := ⟨0, 0, 0, -1⟩

set_option maxRecDepth 100000 in
set_option maxHeartbeats 3200000 in
theorem none_any (fr tt : Int) (v : V4) (w : World) :
    Calls Try.prog 6 #[.int .i64 fr, .int .i64 tt, v.val] w fun e w' => e = .returned (.bool true) ∧ Below w.heap.size w w' := by
  go_enter Try.func6, Try.ntmps6
  go_wp2_with fail
  refine (awake_any _).mono ?_
  rintro e w1 ⟨rfl, hb1⟩
  have hB1 : Below w.heap.size w w1 := ((Below.refl _ _).alloc (Nat.le_refl _) _).trans (hb1.mono (by simp))
  have hK1 : Keeps [(w.heap.size, v.obj)] w1 := ((Keeps.nil w).alloc v.obj).below hb1
  obtain ⟨x0, x1, x2, x3⟩ := v4_cells (hK1.get (w.heap.size) v.obj (by simp))
  have s1 := hB1.size
  replace hB1 := Lib.hid hB1; replace hb1 := Lib.hid hb1; replace hK1 := Lib.hid hK1
  have heq := eq23 ⟨0, 0, 0, 0⟩ ⟨0, 0, 0, 0⟩
  simp at heq
  go_wp2_with fail
  refine (early_none fr tt v _).mono ?_
  rintro e w2 ⟨rfl, hb2⟩
  have hB2 := hB1.out.trans (hb2.mono s1)
  have hK2 := hK1.out.below hb2
  clear x0 x1 x2 x3
  obtain ⟨x0, x1, x2, x3⟩ := v4_cells (hK2.get (w.heap.size) v.obj (by simp))
  have s2 := hB2.size
  replace hB2 := Lib.hid hB2; replace hb2 := Lib.hid hb2; replace hK2 := Lib.hid hK2
  go_wp2_with fail
  refine (take_none fr tt v _).mono ?_
  rintro e w3 ⟨rfl, hb3⟩
  have hB3 := hB2.out.trans (hb3.mono s2)
  have hK3 := hK2.out.below hb3
  clear x0 x1 x2 x3
  obtain ⟨x0, x1, x2, x3⟩ := v4_cells (hK3.get (w.heap.size) v.obj (by simp))
  have s3 := hB3.size
  replace hB3 := Lib.hid hB3; replace hb3 := Lib.hid hb3; replace hK3 := Lib.hid hK3
  go_wp2_with fail
  refine (give_none fr tt v _).mono ?_
  rintro e w4 ⟨rfl, hb4⟩
  have hB4 := hB3.out.trans (hb4.mono s3)
  have hK4 := hK3.out.below hb4
  clear x0 x1 x2 x3
  have s4 := hB4.size
  replace hB4 := Lib.hid hB4; replace hb4 := Lib.hid hb4; replace hK4 := Lib.hid hK4
  go_wp2_with fail
  refine (at_none fr _).mono ?_
  rintro e w5 ⟨rfl, hb5⟩
  have hB5 := hB4.out.trans (hb5.mono s4)
  have hK5 := hK4.out.below hb5
  have s5 := hB5.size
  replace hB5 := Lib.hid hB5; replace hb5 := Lib.hid hb5; replace hK5 := Lib.hid hK5
  go_wp2_with fail
  refine (free_none fr tt _).mono ?_
  rintro e w6 ⟨rfl, hb6⟩
  have hB6 := hB5.out.trans (hb6.mono s5)
  have hK6 := hK5.out.below hb6
  have s6 := hB6.size
  replace hB6 := Lib.hid hB6; replace hb6 := Lib.hid hb6; replace hK6 := Lib.hid hK6
  go_wp2_with fail
  refine (steps_none _).mono ?_
  rintro e w7 ⟨rfl, rfl⟩
  go_wp2_with fail
  refine (new_any one4 _).mono ?_
  rintro e w8 (⟨hw, _⟩ | ⟨hw, pb, sb, rfl, hp, hpb, hsb, hb8⟩)
  · exact absurd hw (by decide)
  clear hw
  have hB8 := hB6.out.trans (hb8.mono s6)
  have hK8 := hK6.out.below hb8
  have s8 := hB8.size
  obtain ⟨x0, x1, x2, x3⟩ := v4_cells (hK8.get (w.heap.size) v.obj (by simp))
  replace hB8 := Lib.hid hB8; replace hb8 := Lib.hid hb8; replace hK8 := Lib.hid hK8; replace hp := Lib.hid hp
  go_wp2_with fail
  refine (span6_any fr tt v _).mono ?_
  rintro e w9 ⟨rfl, hb9⟩
  obtain ⟨sp, hsp⟩ : ∃ sp, sp = spanL fr tt v := ⟨_, rfl⟩
  have hsp' : (decide (0 ≤ fr) && decide (fr < tt) && decide (tt ≤ 1099511627776) && v.right) = sp := hsp.symm
  rw [hsp']
  clear hsp'
  have hB9 := hB8.out.trans (hb9.mono s8)
  have hK9 := hK8.out.below hb9
  have hp9 := hp.out.below hb9 hp.out.lt.1 hp.out.lt.2
  have s9 := hB9.size
  clear x0 x1 x2 x3
  obtain ⟨x0, x1, x2, x3⟩ := v4_cells (hK9.get (w.heap.size) v.obj (by simp))
  replace hB9 := Lib.hid hB9; replace hb9 := Lib.hid hb9; replace hK9 := Lib.hid hK9; replace hp9 := Lib.hid hp9; replace hsp := Lib.hid hsp
  go_wp2_with fail
  refine (take_any pb sb 1 one4 _ fr tt v _ hp9.out (inv_new (by decide)).loose).mono ?_
  rintro e w10 ⟨r, sb', cap', l', rfl, hR, hp10, hs10, hm10⟩
  have hB10 : Below w.heap.size w w10 := below_mod hB9.out hm10 (fun k h => by rcases h with h | h <;> omega) s9
  have s10 := hB10.size
  have hr1 : decide (r = 1) = !sp := by
    rw [hsp.out]
    rcases (take_facts (inv_new (by decide)) hR).2 with ⟨h, rfl, _⟩ | ⟨h, _, rfl, _⟩ | ⟨h, _, rfl, _⟩ <;> rw [h] <;> rfl
  have hr2 : (r == 1) = !sp := by rw [← hr1]; rfl
  clear hr1
  replace hB10 := Lib.hid hB10; replace hm10 := Lib.hid hm10; replace hp10 := Lib.hid hp10; replace hR := Lib.hid hR
  go_wp2_with fail
  refine (new_any bad4 _).mono ?_
  rintro e w11 (⟨hw, rfl, hb11⟩ | ⟨hw, _⟩)
  rotate_left
  · exact absurd hw (by decide)
  clear hw
  have hB11 := hB10.out.trans (hb11.mono s10)
  replace hB11 := Lib.hid hB11; replace hb11 := Lib.hid hb11
  go_wp2
  go_ret
  exact ⟨rfl, hB11.out⟩
end Go.Proofs.Ytpjajiambbobhaa
