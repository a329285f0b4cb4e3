/- corveelaw06.ProfileEarliest, walked: it answers true. Conditions: the row of acts lies in memory; the act's tick is a machine's number. -/
import Derived.Test.YtpjajiambbobhaaEarlp
import Derived.Test.YtpjajiambbobhaaLate
import Derived.Test.YtpjajiambbobhaaBack
namespace Go.Proofs.Ytpjajiambbobhaa
open Go.RowKit

def HeldA (b1 : Nat) (a : Act6) (w' : World) : Prop :=
  w'.cell? ⟨b1, 1, none⟩ = some (.int .i64 a.fr) ∧ w'.cell? ⟨b1, 2, none⟩ = some (.int .i64 a.tt) ∧ w'.cell? ⟨b1, 3, none⟩ = some (.int .i64 a.v.a) ∧ w'.cell? ⟨b1, 4, none⟩ = some (.int .i64 a.v.b) ∧ w'.cell? ⟨b1, 5, none⟩ = some (.int .i64 a.v.c) ∧ w'.cell? ⟨b1, 6, none⟩ = some (.int .i64 a.v.d)
def HeldS (b1 : Nat) (a : Act6) (sx k : Nat) (t : Int) (w' : World) : Prop :=
  w'.cell? ⟨b1, 1, none⟩ = some (.int .i64 a.fr) ∧ w'.cell? ⟨b1, 2, none⟩ = some (.int .i64 a.tt) ∧ w'.cell? ⟨b1, 3, none⟩ = some (.int .i64 a.v.a) ∧ w'.cell? ⟨b1, 4, none⟩ = some (.int .i64 a.v.b) ∧ w'.cell? ⟨b1, 5, none⟩ = some (.int .i64 a.v.c) ∧ w'.cell? ⟨b1, 6, none⟩ = some (.int .i64 a.v.d) ∧ w'.cell? ⟨sx, k * 5, none⟩ = some (.int .i64 t)
theorem heldA_of {b1 : Nat} {a : Act6} {w' : World} (h : w'.heap[b1]? = some a.obj) : HeldA b1 a w' := act_cells h
theorem heldS_of {b1 : Nat} {a : Act6} {sx cx k : Nat} {l : List St} {w' : World} (h : w'.heap[b1]? = some a.obj) (hr : Row w' sx cx l) (hk : k < l.length) : HeldS b1 a sx k (nth l k).t w' := by
  obtain ⟨h1, h2, h3, h4, h5, h6⟩ := act_cells h
  exact ⟨h1, h2, h3, h4, h5, h6, (hr.cells hk).1⟩

set_option maxRecDepth 100000 in
set_option maxHeartbeats 3200000 in
theorem earliest_any (whole : V4) (sv : Value) (acts : List Act6) (a : Act6) (w : World) (ha : ActsAt w sv acts) (hfr : a.fr ≤ 9223372036854775807) (htt : a.tt ≤ 9223372036854775807) :
    Calls Try.prog 4 #[whole.val, sv, a.val] w fun e w' => e = .returned (.bool true) ∧ Below w.heap.size w w' := by
  obtain ⟨ao, capA, hsv, hal, hac⟩ := id ha
  subst hsv
  replace ha := Lib.hid ha
  clear hac
  go_enter Try.func4, Try.ntmps4
  go_wp2_with fail
  refine (awake_any _).mono ?_
  rintro e w1 ⟨rfl, hb1⟩
  have hB1 : Below w.heap.size w w1 := (((Below.refl _ _).alloc (Nat.le_refl _) _).alloc (by simp) _).trans (hb1.mono (by simp; omega))
  have hK1 : Keeps [(w.heap.size + 1, a.obj), (w.heap.size, whole.obj)] w1 := by
    have h0 : Keeps [(w.heap.size, whole.obj)] (w.alloc whole.obj) := (Keeps.nil w).alloc _
    have h1 := h0.alloc a.obj
    simp at h1
    exact h1.below hb1
  obtain ⟨x0, x1, x2, x3⟩ := v4_cells (hK1.get (w.heap.size) whole.obj (by simp))
  have s1 := hB1.size
  have hlt1 : w.heap.size + 1 < w1.heap.size := hK1.lt (w.heap.size + 1, a.obj) (by simp)
  replace hB1 := Lib.hid hB1; replace hb1 := Lib.hid hb1; replace hK1 := Lib.hid hK1
  go_wp2_with fail
  refine (taken_any whole _ acts _ (ha.out.below hB1.out)).mono ?_
  rintro e w2 (⟨hw, rfl, hb2⟩ | ⟨pb, sb, cap, l, k, rfl, hp2, hin, hlate, hk, hpb, hsb, hb2⟩)
  · have hB2 : Below w.heap.size w w2 := hB1.out.trans (hb2.mono s1)
    replace hB2 := Lib.hid hB2; replace hb2 := Lib.hid hb2; replace hw := Lib.hid hw
    go_wp2
    go_ret
    exact ⟨rfl, hB2.out⟩
  clear x0 x1 x2 x3
  have hB2 : Below w.heap.size w w2 := hB1.out.trans (hb2.mono s1)
  have hK2 := hK1.out.below hb2
  obtain ⟨y1, y2, y3, y4, y5, y6⟩ := act_cells (hK2.get (w.heap.size + 1) a.obj (by simp))
  have s2 := hB2.size
  have t2 := hb2.size
  replace hB2 := Lib.hid hB2; replace hb2 := Lib.hid hb2; replace hK2 := Lib.hid hK2; replace hp2 := Lib.hid hp2; replace hin := Lib.hid hin; replace hlate := Lib.hid hlate
  -- Earliest
  go_wp2_with fail
  refine (early_any pb sb cap whole l a.fr a.tt a.v _ hp2.out hin.out.loose hfr).mono ?_
  rintro e w3 ⟨t, is, rfl, hR, hb3⟩
  have hB3 : Below w.heap.size w w3 := hB2.out.trans (hb3.mono s2)
  have hK3 := hK2.out.below hb3
  have hp3 := hp2.out.below hb3 hp2.out.lt.1 hp2.out.lt.2
  have s3 := hB3.size
  have t3 := hb3.size
  have hlt3 : w.heap.size + 1 < w3.heap.size := hK3.lt (w.heap.size + 1, a.obj) (by simp)
  clear y1 y2 y3 y4 y5 y6
  obtain ⟨x0, x1, x2, x3⟩ := v4_cells (hK3.get (w.heap.size) whole.obj (by simp))
  obtain ⟨y1, y2, y3, y4, y5, y6⟩ := act_cells (hK3.get (w.heap.size + 1) a.obj (by simp))
  replace hB3 := Lib.hid hB3; replace hb3 := Lib.hid hb3; replace hK3 := Lib.hid hK3; replace hp3 := Lib.hid hp3
  cases is
  · obtain ⟨rfl, hno⟩ := early_no hin.out hlate.out hR
    clear hR
    replace hno := Lib.hid hno
    by_cases q1 : a.tt < 1
    · have d1 : decide (a.tt < 1) = true := by simpa using q1
      go_wp2
      go_ret
      exact ⟨rfl, hB3.out⟩
    have d1 : decide (a.tt < 1) = false := by simpa using q1
    replace q1 := Lib.hid q1
    go_wp2_with fail
    refine (right3_any a.v _).mono ?_
    rintro e w4 ⟨rfl, hb4⟩
    have hB4 : Below w.heap.size w w4 := hB3.out.trans (hb4.mono s3)
    have hK4 := hK3.out.below hb4
    clear x0 x1 x2 x3 y1 y2 y3 y4 y5 y6
    obtain ⟨x0, x1, x2, x3⟩ := v4_cells (hK4.get (w.heap.size) whole.obj (by simp))
    obtain ⟨y1, y2, y3, y4, y5, y6⟩ := act_cells (hK4.get (w.heap.size + 1) a.obj (by simp))
    have s4 := hB4.size
    have hlt4 : w.heap.size + 1 < w4.heap.size := hK4.lt (w.heap.size + 1, a.obj) (by simp)
    replace hB4 := Lib.hid hB4; replace hb4 := Lib.hid hb4; replace hK4 := Lib.hid hK4
    by_cases q2 : a.v.right = true
    rotate_left
    · have q2' : a.v.right = false := by simpa using q2
      replace q2 := Lib.hid q2
      go_wp2
      go_ret
      exact ⟨rfl, hB4.out⟩
    have e1 : IntKind.i64.wrap (1099511627776 - a.tt) = 1099511627776 - a.tt := IntWalk.i64_in _ (by have := q1.out; omega)
    by_cases q3 : 1099511627776 - a.tt < a.fr
    · have d3 : decide (1099511627776 - a.tt < a.fr) = true := by simpa using q3
      replace q3 := Lib.hid q3
      go_wp2
      go_ret
      exact ⟨rfl, hB4.out⟩
    have d3 : decide (1099511627776 - a.tt < a.fr) = false := by simpa using q3
    replace q3 := Lib.hid q3
    go_wp2_with fail
    refine (fits3_any a.v whole _).mono ?_
    rintro e w5 ⟨rfl, hb5⟩
    have hB5 : Below w.heap.size w w5 := hB4.out.trans (hb5.mono s4)
    have hK5 := hK4.out.below hb5
    clear x0 x1 x2 x3 y1 y2 y3 y4 y5 y6
    obtain ⟨y1, y2, y3, y4, y5, y6⟩ := act_cells (hK5.get (w.heap.size + 1) a.obj (by simp))
    have s5 := hB5.size
    have hlt5 : w.heap.size + 1 < w5.heap.size := hK5.lt (w.heap.size + 1, a.obj) (by simp)
    replace hB5 := Lib.hid hB5; replace hb5 := Lib.hid hb5; replace hK5 := Lib.hid hK5
    by_cases q4 : a.v.fits whole = true
    rotate_left
    · have q4' : a.v.fits whole = false := by simpa using q4
      replace q4 := Lib.hid q4
      go_wp2
      go_ret
      exact ⟨rfl, hB5.out⟩
    by_cases q5 : 1099511625776 < a.tt
    · have d5 : decide (1099511625776 < a.tt) = true := by simpa using q5
      replace q5 := Lib.hid q5
      go_wp2
      go_ret
      exact ⟨rfl, hB5.out⟩
    have d5 : decide (1099511625776 < a.tt) = false := by simpa using q5
    replace q5 := Lib.hid q5
    go_wp2_with fail
    refine (late_any _ acts _ (ha.out.below hB5.out)).mono ?_
    rintro e w6 ⟨b, rfl, hnb, hb6⟩
    have hB6 : Below w.heap.size w w6 := hB5.out.trans (hb6.mono s5)
    have hbt : b = true := by
      cases b
      · obtain ⟨i, hi, hi2⟩ := hno.out (by have := q1.out; omega) q2 (by have := q3.out; omega) q4 (by have := q5.out; omega)
        have := hnb rfl i hi
        omega
      · rfl
    subst hbt
    clear hnb
    replace hB6 := Lib.hid hB6; replace hb6 := Lib.hid hb6
    go_wp2
    go_ret
    exact ⟨rfl, hB6.out⟩
  · obtain ⟨h1t, ht0, hat, hend, hfit, hmin⟩ := early_yes hin.out hR
    clear hR x0 x1 x2 x3
    have d1 : decide (t < 0) = false := by simp; omega
    have d2 : decide (t < a.fr) = false := by simp; omega
    have d3 : decide (a.tt < 1) = false := by simp; omega
    have e1 : IntKind.i64.wrap (1099511627776 - t) = 1099511627776 - t := IntWalk.i64_in _ (by omega)
    have d4 : decide (1099511627776 - t < a.tt) = false := by simp; omega
    have e2 : IntKind.i64.wrap (t + a.tt) = t + a.tt := IntWalk.i64_in _ (by omega)
    replace hmin := Lib.hid hmin
    replace h1t := Lib.hid h1t; replace ht0 := Lib.hid ht0; replace hat := Lib.hid hat; replace hend := Lib.hid hend
    go_wp2_with fail
    go_region_held3 (fun w' => w'.cell? ⟨w.heap.size + 1, 1, none⟩ = some (.int .i64 a.fr) ∧ w'.cell? ⟨w.heap.size + 1, 2, none⟩ = some (.int .i64 a.tt) ∧ w'.cell? ⟨w.heap.size + 1, 3, none⟩ = some (.int .i64 a.v.a) ∧ w'.cell? ⟨w.heap.size + 1, 4, none⟩ = some (.int .i64 a.v.b) ∧ w'.cell? ⟨w.heap.size + 1, 5, none⟩ = some (.int .i64 a.v.c) ∧ w'.cell? ⟨w.heap.size + 1, 6, none⟩ = some (.int .i64 a.v.d))
      (first
        | (go_keep; done)
        | exact heldA_of (hK4.out.get _ _ (by simp))
        | exact heldA_of (hK5.out.get _ _ (by simp)))
      (first
        | (go_at_call 22
           refine (free_any pb sb cap whole l t (t + a.tt) _ hp3.out.drew hin.out.loose).mono ?_
           rintro e w4 ⟨rfl, hb4⟩
           have hK4 := hK3.out.drew.below hb4
           have hp4 := hp3.out.drew.below hb4 hp3.out.lt.1 hp3.out.lt.2
           have hB4 : Below w.heap.size w w4 := hB3.out.drew.trans (hb4.mono s3)
           replace hb4 := Lib.hid hb4; replace hK4 := Lib.hid hK4; replace hp4 := Lib.hid hp4; replace hB4 := Lib.hid hB4)
        | (go_at_call 28
           refine (fits3_any a.v _ _).mono ?_
           rintro e w5 ⟨rfl, hb5⟩
           have hK5 := hK4.out.below hb5
           have hp5 := hp4.out.below hb5 hp4.out.lt.1 hp4.out.lt.2
           have hB5 : Below w.heap.size w w5 := hB4.out.trans (hb5.mono hB4.out.size)
           replace hb5 := Lib.hid hb5; replace hK5 := Lib.hid hK5; replace hp5 := Lib.hid hp5; replace hB5 := Lib.hid hB5))
    clear y1 y2 y3 y4 y5 y6 e1 d1 d2 d4 e2
    have s5 := hB5.out.size
    -- Steps
    go_wp2_with fail
    refine (steps_any pb sb cap whole l _ hp5.out hin.out.loose).mono ?_
    rintro e w6 ⟨sx, cx, rfl, hr6, hsx, hb6⟩
    have hB6 : Below w.heap.size w w6 := hB5.out.trans (hb6.mono s5)
    have hK6 := hK5.out.below hb6
    have hp6 := hp5.out.below hb6 hp5.out.lt.1 hp5.out.lt.2
    have hlenl := hin.out.loose.len
    clear s5
    have s6 := hB6.size
    have t6 := hr6.lt
    have hlt6 : w.heap.size + 1 < w6.heap.size := hK6.lt (w.heap.size + 1, a.obj) (by simp)
    replace hB6 := Lib.hid hB6; replace hb6 := Lib.hid hb6; replace hK6 := Lib.hid hK6; replace hp6 := Lib.hid hp6; replace hr6 := Lib.hid hr6
    have hfree : Hid (∀ u, 0 ≤ u → a.fr ≤ u → u < t → a.v.fits (freeL whole l u (u + a.tt)) = false) := hmin.out
    go_wp2
    go_loopw [12] (fun i wr => ∃ k : Nat, i = .int .i64 k ∧ k ≤ l.length ∧ Hid (Prof wr pb sb cap whole l) ∧ Hid (Row wr sx cx l) ∧ Hid (Keeps [(w.heap.size + 1, a.obj), (w.heap.size, whole.obj)] wr) ∧ Hid (Below w.heap.size w wr)) (fun i _ => l.length - (intOf i).toNat)
    case atStart => exact ⟨0, rfl, Nat.zero_le _, hp6.out, hr6.out, hK6.out, hB6.out⟩
    case round =>
      obtain ⟨k2, rfl, hk2, hpr, hrr, hKr, hBr⟩ := hrel
      have hltr : w.heap.size + 1 < wr.heap.size := hKr.out.lt (w.heap.size + 1, a.obj) (by simp)
      obtain ⟨y1, y2, y3, y4, y5, y6⟩ := act_cells (hKr.out.get (w.heap.size + 1) a.obj (by simp))
      have lsx := hrr.out.lt
      by_cases hc : k2 < l.length
      · have hc1 : (k2 : Int) < l.length := by omega
        have hk0 : (0 : Int) ≤ (k2 : Int) := by omega
        obtain ⟨a0, a1, a2, a3, a4⟩ := hrr.out.cells hc
        clear a1 a2 a3 a4
        have hs0 : 0 ≤ (nth l k2).t := by have := hin.out.loose.ge k2 hc; omega
        have hS0 : Hid (∀ w' : World, w'.heap[w.heap.size + 1]? = some a.obj → Row w' sx cx l → HeldS (w.heap.size + 1) a sx k2 (nth l k2).t w') := fun w' h1 h2 => heldS_of h1 h2 hc
        obtain ⟨s, hs⟩ : ∃ s, s = (nth l k2).t := ⟨_, rfl⟩
        rw [← hs] at a0 hs0 hS0
        replace hs := Lib.hid hs
        by_cases q1 : a.fr ≤ s
        rotate_left
        · have d1 : decide (a.fr ≤ s) = false := by simpa using q1
          replace q1 := Lib.hid q1
          go_wp2
          go_quiet (fail)
          go_wp2
          go_roundw
          case rel => exact ⟨k2 + 1, by go_num, by omega, ⟨hpr.out.head, hpr.out.row.of_block rfl, hpr.out.ne⟩, hrr.out.of_block rfl, hKr.out.drew, ⟨hBr.out.os, hBr.out.tape, hBr.out.output, hBr.out.size, hBr.out.block⟩⟩
          case measure => simp [intOf]; omega
        have d1 : decide (a.fr ≤ s) = true := by simpa using q1
        by_cases q2 : s < t
        rotate_left
        · have d2 : decide (s < t) = false := by simpa using q2
          replace q1 := Lib.hid q1; replace q2 := Lib.hid q2
          go_wp2
          go_quiet (fail)
          go_wp2
          go_roundw
          case rel => exact ⟨k2 + 1, by go_num, by omega, ⟨hpr.out.head, hpr.out.row.of_block rfl, hpr.out.ne⟩, hrr.out.of_block rfl, hKr.out.drew, ⟨hBr.out.os, hBr.out.tape, hBr.out.output, hBr.out.size, hBr.out.block⟩⟩
          case measure => simp [intOf]; omega
        have d2 : decide (s < t) = true := by simpa using q2
        have hff := hfree.out s hs0 q1 q2
        have e2 : IntKind.i64.wrap (s + a.tt) = s + a.tt := IntWalk.i64_in _ (by have := hend.out; have := h1t.out; omega)
        replace q1 := Lib.hid q1; replace q2 := Lib.hid q2
        have hrD : Hid (Row wr.drew sx cx l) := hrr.out.of_block rfl
        go_wp2_with fail
        go_region_held3 (fun w' => w'.cell? ⟨w.heap.size + 1, 1, none⟩ = some (.int .i64 a.fr) ∧ w'.cell? ⟨w.heap.size + 1, 2, none⟩ = some (.int .i64 a.tt) ∧ w'.cell? ⟨w.heap.size + 1, 3, none⟩ = some (.int .i64 a.v.a) ∧ w'.cell? ⟨w.heap.size + 1, 4, none⟩ = some (.int .i64 a.v.b) ∧ w'.cell? ⟨w.heap.size + 1, 5, none⟩ = some (.int .i64 a.v.c) ∧ w'.cell? ⟨w.heap.size + 1, 6, none⟩ = some (.int .i64 a.v.d) ∧ w'.cell? ⟨sx, k2 * 5, none⟩ = some (.int .i64 s))
          (first
            | (go_keep; done)
            | exact hS0.out _ (hK8.out.get _ _ (by simp)) hr8.out
            | exact hS0.out _ (hK9.out.get _ _ (by simp)) hr9.out)
          (first
            | (go_at_call 22
               refine (free_any pb sb cap whole l s (s + a.tt) _ hpr.out.drew hin.out.loose).mono ?_
               rintro e w8 ⟨rfl, hb8⟩
               have hK8 := hKr.out.drew.below hb8
               have hp8 := hpr.out.drew.below hb8 hpr.out.lt.1 hpr.out.lt.2
               have hr8 := hrD.out.below hb8 hrD.out.lt
               have hB8 : Below w.heap.size w w8 := hBr.out.drew.trans (hb8.mono hBr.out.size)
               replace hb8 := Lib.hid hb8; replace hK8 := Lib.hid hK8; replace hp8 := Lib.hid hp8; replace hr8 := Lib.hid hr8; replace hB8 := Lib.hid hB8)
            | (go_at_call 28
               refine (fits3_any a.v _ _).mono ?_
               rintro e w9 ⟨rfl, hb9⟩
               have hK9 := hK8.out.below hb9
               have hp9 := hp8.out.below hb9 hp8.out.lt.1 hp8.out.lt.2
               have hr9 := hr8.out.below hb9 hr8.out.lt
               have hB9 : Below w.heap.size w w9 := hB8.out.trans (hb9.mono hB8.out.size)
               replace hb9 := Lib.hid hb9; replace hK9 := Lib.hid hK9; replace hp9 := Lib.hid hp9; replace hr9 := Lib.hid hr9; replace hB9 := Lib.hid hB9))
        go_wp2
        go_roundw
        case rel => exact ⟨k2 + 1, by go_num, by omega, hp9.out, hr9.out, hK9.out, hB9.out⟩
        case measure => simp [intOf]; omega
      · have hc1 : ¬ (k2 : Int) < l.length := by omega
        obtain ⟨M, hM⟩ : ∃ M, M = max a.fr 0 := ⟨_, rfl⟩
        have hmx : (if a.fr < 0 then 0 else a.fr) = M := by rw [hM]; omega
        by_cases q1 : t = M
        · have d1 : (t == M) = true := by simpa using q1
          replace q1 := Lib.hid q1; replace hM := Lib.hid hM
          go_wp2
          go_quiet (fail)
          go_wp2
          go_ret
          exact ⟨rfl, ⟨hBr.out.os, hBr.out.tape, hBr.out.output, hBr.out.size, hBr.out.block⟩⟩
        · have d1 : (t == M) = false := by simpa using q1
          have hff := hfree.out (t - 1) (by have := ht0.out; have := hat.out; omega) (by have := ht0.out; have := hat.out; omega) (by omega)
          have e1 : IntKind.i64.wrap (t - 1) = t - 1 := IntWalk.i64_in _ (by have := ht0.out; have := hend.out; have := h1t.out; omega)
          have e2 : IntKind.i64.wrap (t - 1 + a.tt) = t - 1 + a.tt := IntWalk.i64_in _ (by have := ht0.out; have := hend.out; have := h1t.out; omega)
          replace q1 := Lib.hid q1; replace hM := Lib.hid hM
          go_wp2_with fail
          go_region_held3 (fun w' => w'.cell? ⟨w.heap.size + 1, 1, none⟩ = some (.int .i64 a.fr) ∧ w'.cell? ⟨w.heap.size + 1, 2, none⟩ = some (.int .i64 a.tt) ∧ w'.cell? ⟨w.heap.size + 1, 3, none⟩ = some (.int .i64 a.v.a) ∧ w'.cell? ⟨w.heap.size + 1, 4, none⟩ = some (.int .i64 a.v.b) ∧ w'.cell? ⟨w.heap.size + 1, 5, none⟩ = some (.int .i64 a.v.c) ∧ w'.cell? ⟨w.heap.size + 1, 6, none⟩ = some (.int .i64 a.v.d))
            (first
              | (go_keep; done)
              | exact heldA_of (hK8.out.get _ _ (by simp))
              | exact heldA_of (hK9.out.get _ _ (by simp)))
            (first
              | (go_at_call 22
                 refine (free_any pb sb cap whole l (t - 1) (t - 1 + a.tt) _ hpr.out.drew hin.out.loose).mono ?_
                 rintro e w8 ⟨rfl, hb8⟩
                 have hK8 := hKr.out.drew.below hb8
                 have hB8 : Below w.heap.size w w8 := hBr.out.drew.trans (hb8.mono hBr.out.size)
                 replace hb8 := Lib.hid hb8; replace hK8 := Lib.hid hK8; replace hB8 := Lib.hid hB8)
              | (go_at_call 28
                 refine (fits3_any a.v _ _).mono ?_
                 rintro e w9 ⟨rfl, hb9⟩
                 have hK9 := hK8.out.below hb9
                 have hB9 : Below w.heap.size w w9 := hB8.out.trans (hb9.mono hB8.out.size)
                 replace hb9 := Lib.hid hb9; replace hK9 := Lib.hid hK9; replace hB9 := Lib.hid hB9))
          go_wp2
          go_ret
          exact ⟨rfl, hB9.out⟩
end Go.Proofs.Ytpjajiambbobhaa
