/- corveelaw06.ProfileBack, walked: it answers true. -/
import Derived.Test.YtpjajiambbobhaaBackp
import Derived.Test.YtpjajiambbobhaaAwake
namespace Go.Proofs.Ytpjajiambbobhaa
open Go.RowKit

theorem ActsAt.below {w w' : World} {sv : Value} {acts : List Act6} (h : ActsAt w sv acts) (hb : Below w.heap.size w w') : ActsAt w' sv acts := by
  obtain ⟨ao, cap, h1, h2, h3⟩ := h
  refine ⟨ao, cap, h1, h2, fun i hi => ?_⟩
  obtain ⟨b, off, e, hlt, a0, a1, a2, a3, a4, a5, a6⟩ := h3 i hi
  exact ⟨b, off, e, Nat.lt_of_lt_of_le hlt hb.size, (below_cell hb hlt).trans a0, (below_cell hb hlt).trans a1, (below_cell hb hlt).trans a2, (below_cell hb hlt).trans a3, (below_cell hb hlt).trans a4, (below_cell hb hlt).trans a5, (below_cell hb hlt).trans a6⟩

def Act6.obj (a : Act6) : Obj := .cells #[.int .i64 a.kind, .int .i64 a.fr, .int .i64 a.tt, .int .i64 a.v.a, .int .i64 a.v.b, .int .i64 a.v.c, .int .i64 a.v.d] 26 (0, 0)
def V4.obj (v : V4) : Obj := .cells v.cells 23 (0, 0)

theorem Keeps.get {L : List (Nat × Obj)} {w : World} (h : Keeps L w) (b : Nat) (o : Obj) (hm : (b, o) ∈ L) : w.heap[b]? = some o := h _ hm

theorem act_cells {w : World} {b : Nat} {a : Act6} (h : w.heap[b]? = some a.obj) : w.cell? ⟨b, 1, none⟩ = some (.int .i64 a.fr) ∧ w.cell? ⟨b, 2, none⟩ = some (.int .i64 a.tt) ∧ w.cell? ⟨b, 3, none⟩ = some (.int .i64 a.v.a) ∧ w.cell? ⟨b, 4, none⟩ = some (.int .i64 a.v.b) ∧ w.cell? ⟨b, 5, none⟩ = some (.int .i64 a.v.c) ∧ w.cell? ⟨b, 6, none⟩ = some (.int .i64 a.v.d) := by
  have := blk_cell h
  exact ⟨this 1, this 2, this 3, this 4, this 5, this 6⟩
theorem v4_cells {w : World} {b : Nat} {v : V4} (h : w.heap[b]? = some v.obj) : w.cell? ⟨b, 0, none⟩ = some (.int .i64 v.a) ∧ w.cell? ⟨b, 1, none⟩ = some (.int .i64 v.b) ∧ w.cell? ⟨b, 2, none⟩ = some (.int .i64 v.c) ∧ w.cell? ⟨b, 3, none⟩ = some (.int .i64 v.d) := by
  have := blk_cell h
  exact ⟨this 0, this 1, this 2, this 3⟩

/-- what the last statement reads in blocks that stay -/
def Held (b1 b2 : Nat) (a : Act6) (ah : V4) (w' : World) : Prop :=
  w'.cell? ⟨b1, 1, none⟩ = some (.int .i64 a.fr) ∧ w'.cell? ⟨b1, 2, none⟩ = some (.int .i64 a.tt) ∧ w'.cell? ⟨b1, 3, none⟩ = some (.int .i64 a.v.a) ∧ w'.cell? ⟨b1, 4, none⟩ = some (.int .i64 a.v.b) ∧ w'.cell? ⟨b1, 5, none⟩ = some (.int .i64 a.v.c) ∧ w'.cell? ⟨b1, 6, none⟩ = some (.int .i64 a.v.d) ∧
    w'.cell? ⟨b2, 0, none⟩ = some (.int .i64 ah.a) ∧ w'.cell? ⟨b2, 1, none⟩ = some (.int .i64 ah.b) ∧ w'.cell? ⟨b2, 2, none⟩ = some (.int .i64 ah.c) ∧ w'.cell? ⟨b2, 3, none⟩ = some (.int .i64 ah.d)
theorem held_of {b1 b2 : Nat} {a : Act6} {ah : V4} {w' : World} (h1 : w'.heap[b1]? = some a.obj) (h2 : w'.heap[b2]? = some ah.obj) : Held b1 b2 a ah w' := by
  obtain ⟨a1, a2, a3, a4, a5, a6⟩ := act_cells h1
  obtain ⟨c1, c2, c3, c4⟩ := v4_cells h2
  exact ⟨a1, a2, a3, a4, a5, a6, c1, c2, c3, c4⟩
def Two (b1 b2 : Nat) (a : Act6) (ah : V4) (w' : World) : Prop := w'.heap[b1]? = some a.obj ∧ w'.heap[b2]? = some ah.obj
theorem Two.below {b1 b2 : Nat} {a : Act6} {ah : V4} {w w' : World} (h : Two b1 b2 a ah w) (hb : Below w.heap.size w w') : Two b1 b2 a ah w' := ⟨blk_below hb h.1 (blk_lt h.1), blk_below hb h.2 (blk_lt h.2)⟩
theorem Two.mod {b1 b2 : Nat} {a : Act6} {ah : V4} {S : Nat → Prop} {w w' : World} (h : Two b1 b2 a ah w) (hm : Mod S w w') (h1 : ¬ S b1) (h2 : ¬ S b2) : Two b1 b2 a ah w' := ⟨(hm.block _ (blk_lt h.1) h1).trans h.1, (hm.block _ (blk_lt h.2) h2).trans h.2⟩
theorem Two.held {b1 b2 : Nat} {a : Act6} {ah : V4} {w' : World} (h : Two b1 b2 a ah w') : Held b1 b2 a ah w' := held_of h.1 h.2

set_option maxRecDepth 100000 in
set_option maxHeartbeats 3200000 in
theorem back_any (whole : V4) (sv : Value) (acts : List Act6) (a : Act6) (w : World) (ha : ActsAt w sv acts) :
    Calls Try.prog 3 #[whole.val, sv, a.val] w fun e w' => e = .returned (.bool true) ∧ Below w.heap.size w w' := by
  obtain ⟨ao, capA, hsv, hal, hac⟩ := id ha
  subst hsv
  replace ha := Lib.hid ha
  clear hac
  go_enter Try.func3, Try.ntmps3
  go_wp2_with fail
  refine (awake_any _).mono ?_
  rintro e w1 ⟨rfl, hb1⟩
  have hB1 : Below w.heap.size w w1 := (((Below.refl _ _).alloc (Nat.le_refl _) _).alloc (by simp) _).trans (hb1.mono (by simp; omega))
  have hK1 : Keeps [(w.heap.size + 1, a.obj), (w.heap.size, whole.obj)] w1 := by
    have h0 : Keeps [(w.heap.size, whole.obj)] (w.alloc whole.obj) := (Keeps.nil w).alloc _
    have h1 := h0.alloc a.obj
    simp at h1
    exact h1.below hb1
  obtain ⟨x0, x1, x2, x3⟩ := v4_cells (hK1.get (w.heap.size) whole.obj (by simp))
  have s1 := hB1.size
  have hlt1 : w.heap.size + 1 < w1.heap.size := hK1.lt (w.heap.size + 1, a.obj) (by simp)
  replace hB1 := Lib.hid hB1; replace hb1 := Lib.hid hb1; replace hK1 := Lib.hid hK1
  go_wp2_with fail
  refine (taken_any whole _ acts _ (ha.out.below hB1.out)).mono ?_
  rintro e w2 (⟨hw, rfl, hb2⟩ | ⟨pb, sb, cap, l, k, rfl, hp2, hin, hlate, hk, hpb, hsb, hb2⟩)
  · have hB2 : Below w.heap.size w w2 := hB1.out.trans (hb2.mono s1)
    replace hB2 := Lib.hid hB2; replace hb2 := Lib.hid hb2; replace hw := Lib.hid hw
    go_wp2
    go_ret
    exact ⟨rfl, hB2.out⟩
  clear x0 x1 x2 x3
  have hB2 : Below w.heap.size w w2 := hB1.out.trans (hb2.mono s1)
  have hK2 := hK1.out.below hb2
  have s2 := hB2.size
  have t2 := hb2.size
  replace hB2 := Lib.hid hB2; replace hb2 := Lib.hid hb2; replace hK2 := Lib.hid hK2; replace hp2 := Lib.hid hp2; replace hin := Lib.hid hin; replace hlate := Lib.hid hlate
  -- Steps
  go_wp2_with fail
  refine (steps_any pb sb cap whole l _ hp2.out hin.out.loose).mono ?_
  rintro e w3 ⟨sx, cx, rfl, hr3, hsx, hb3⟩
  have hB3 : Below w.heap.size w w3 := hB2.out.trans (hb3.mono s2)
  have hK3 := hK2.out.below hb3
  have hp3 := hp2.out.below hb3 hp2.out.lt.1 hp2.out.lt.2
  obtain ⟨y1, y2, y3, y4, y5, y6⟩ := act_cells (hK3.get (w.heap.size + 1) a.obj (by simp))
  have s3 := hB3.size
  have t3 := hb3.size
  have t3x := hr3.lt
  have l2 := hp2.out.lt
  obtain ⟨l21, l22⟩ := l2
  replace hB3 := Lib.hid hB3; replace hb3 := Lib.hid hb3; replace hK3 := Lib.hid hK3; replace hp3 := Lib.hid hp3; replace hr3 := Lib.hid hr3
  -- Free, before
  go_wp2_with fail
  refine (free_any pb sb cap whole l a.fr a.tt _ hp3.out hin.out.loose).mono ?_
  rintro e w4 ⟨rfl, hb4⟩
  obtain ⟨bf, hbf⟩ : ∃ bf, bf = freeL whole l a.fr a.tt := ⟨_, rfl⟩
  rw [← hbf]
  replace hbf := Lib.hid hbf
  have hB4 : Below w.heap.size w (w4.alloc bf.obj) := (hB3.out.trans (hb4.mono s3)).alloc (by have := hb4.size; omega) _
  have hK4 := (hK3.out.below hb4).alloc bf.obj
  have hp4 := (hp3.out.below hb4 hp3.out.lt.1 hp3.out.lt.2).below ((Below.refl _ _).alloc (Nat.le_refl _) bf.obj) (by have := hp3.out.lt.1; have := hb4.size; omega) (by have := hp3.out.lt.2; have := hb4.size; omega)
  have hr4 := (hr3.out.below hb4 hr3.out.lt).below ((Below.refl _ _).alloc (Nat.le_refl _) bf.obj) (by have := hr3.out.lt; have := hb4.size; omega)
  obtain ⟨z1, z2, z3, z4, z5, z6⟩ := act_cells ((hK3.out.below hb4).get (w.heap.size + 1) a.obj (by simp))
  have hlt4 : w.heap.size + 1 < w4.heap.size := by have := hb4.size; omega
  have s4 := hb4.size
  clear y1 y2 y3 y4 y5 y6
  replace hB4 := Lib.hid hB4; replace hb4 := Lib.hid hb4; replace hK4 := Lib.hid hK4; replace hp4 := Lib.hid hp4; replace hr4 := Lib.hid hr4
  -- Free, ahead
  go_wp2_with fail
  refine (free_any pb sb cap whole l 0 a.fr _ hp4.out hin.out.loose).mono ?_
  rintro e w5 ⟨rfl, hb5⟩
  obtain ⟨ah, hah⟩ : ∃ ah, ah = freeL whole l 0 a.fr := ⟨_, rfl⟩
  rw [← hah]
  replace hah := Lib.hid hah
  have s4' : w.heap.size ≤ (w4.alloc bf.obj).heap.size := hB4.out.size
  have hB5 : Below w.heap.size w (w5.alloc ah.obj) := (hB4.out.trans (hb5.mono s4')).alloc (by have := hb5.size; omega) _
  have hK5 := (hK4.out.below hb5).alloc ah.obj
  have s5 := hb5.size
  have hp5 := (hp4.out.below hb5 hp4.out.lt.1 hp4.out.lt.2).below ((Below.refl _ _).alloc (Nat.le_refl _) ah.obj) (by have := hp4.out.lt.1; omega) (by have := hp4.out.lt.2; omega)
  have hr5 := (hr4.out.below hb5 hr4.out.lt).below ((Below.refl _ _).alloc (Nat.le_refl _) ah.obj) (by have := hr4.out.lt; omega)
  obtain ⟨y1, y2, y3, y4, y5, y6⟩ := act_cells ((hK4.out.below hb5).get (w.heap.size + 1) a.obj (by simp))
  have hlt5 : w.heap.size + 1 < w5.heap.size := by simp at s5; omega
  clear z1 z2 z3 z4 z5 z6
  simp at s5
  replace hB5 := Lib.hid hB5; replace hb5 := Lib.hid hb5; replace hK5 := Lib.hid hK5; replace hp5 := Lib.hid hp5; replace hr5 := Lib.hid hr5
  -- Take
  go_wp2_with fail
  refine (take_any pb sb cap whole l a.fr a.tt a.v _ hp5.out hin.out.loose).mono ?_
  rintro e w6 ⟨r, sb6, cap6, l6, rfl, hR, hp6, hs6, hm6⟩
  obtain ⟨hin6, hT⟩ := take_facts hin.out hR
  clear hR
  have hsz5 : (w5.alloc ah.obj).heap.size = w5.heap.size + 1 := by simp
  have hB6 : Below w.heap.size w w6 := below_mod hB5.out hm6 (fun k h => by rcases h with h | h <;> omega) hB5.out.size
  have s6 := hm6.size
  have hlx := hr5.out.lt
  have hsxsb : sx ≠ sb := by omega
  have hsxpb : sx ≠ pb := by omega
  have hr6 : Row w6 sx cx l := hr5.out.of_block (hm6.block sx hlx (by omega))
  have hK6 : Keeps [(w5.heap.size, ah.obj), (w4.heap.size, bf.obj), (w.heap.size + 1, a.obj), (w.heap.size, whole.obj)] w6 := hK5.out.mod hm6 (by
    intro p hp
    simp at hp
    rcases hp with rfl | rfl | rfl | rfl <;> simp only <;> omega)
  have hpb6 : w.heap.size + 1 < pb ∧ pb < w4.heap.size ∧ pb < w5.heap.size := by omega
  have hsb6 : w.heap.size + 1 < sb6 ∧ sb6 ≠ w4.heap.size ∧ sb6 ≠ w5.heap.size ∧ sb6 ≠ sx := by rcases hs6 with h | h <;> omega
  clear y1 y2 y3 y4 y5 y6
  obtain ⟨z1, z2, z3, z4, z5, z6⟩ := act_cells (hK6.get (w.heap.size + 1) a.obj (by simp))
  have hlenl := hin.out.loose.len
  replace hlx := Lib.hid hlx; replace hpb6 := Lib.hid hpb6; replace hsb6 := Lib.hid hsb6; replace hs6 := Lib.hid hs6
  replace hB6 := Lib.hid hB6; replace hm6 := Lib.hid hm6; replace hr6 := Lib.hid hr6; replace hK6 := Lib.hid hK6; replace hp6 := Lib.hid hp6; replace hin6 := Lib.hid hin6
  replace hsz5 := Lib.hid hsz5
  have refused : ∀ (hl6 : l6 = l), Calls Try.prog 21 #[.pointer (some ⟨pb, 0, none⟩)] w6 (ClonePost l w6) := fun hl6 => by
    have := hp6.out; rw [hl6] at this
    exact steps_any pb sb6 cap6 whole l w6 this hin.out.loose
  replace refused := Lib.hid refused
  rcases hT with ⟨_, rfl, hl6⟩ | ⟨_, _, rfl, hl6⟩ | ⟨hs, hall, rfl, hv⟩
  · go_wp2_with fail
    refine (refused.out hl6).mono ?_
    rintro e w7 ⟨sy, cy, rfl, hr7, hsy, hb7⟩
    have hB7 : Below w.heap.size w w7 := hB6.out.trans (hb7.mono hB6.out.size)
    have hr67 := hr6.out.below hb7 hr6.out.lt
    replace hb7 := Lib.hid hb7; replace hB7 := Lib.hid hB7; replace hl6 := Lib.hid hl6
    replace hr7 := Lib.hid hr7; replace hr67 := Lib.hid hr67
    go_wp2_with fail
    refine (same6_any sy cy sx cx l l _ hr7.out hr67.out (by omega)).mono ?_
    rintro e w8 ⟨rfl, hb8⟩
    have hB8 : Below w.heap.size w w8 := hB7.out.trans (hb8.mono hB7.out.size)
    replace hb8 := Lib.hid hb8; replace hB8 := Lib.hid hB8
    go_wp2
    go_ret
    exact ⟨by simp, hB8.out⟩
  · go_wp2_with fail
    refine (refused.out hl6).mono ?_
    rintro e w7 ⟨sy, cy, rfl, hr7, hsy, hb7⟩
    have hB7 : Below w.heap.size w w7 := hB6.out.trans (hb7.mono hB6.out.size)
    have hr67 := hr6.out.below hb7 hr6.out.lt
    replace hb7 := Lib.hid hb7; replace hB7 := Lib.hid hB7; replace hl6 := Lib.hid hl6
    replace hr7 := Lib.hid hr7; replace hr67 := Lib.hid hr67
    go_wp2_with fail
    refine (same6_any sy cy sx cx l l _ hr7.out hr67.out (by omega)).mono ?_
    rintro e w8 ⟨rfl, hb8⟩
    have hB8 : Below w.heap.size w w8 := hB7.out.trans (hb8.mono hB7.out.size)
    replace hb8 := Lib.hid hb8; replace hB8 := Lib.hid hB8
    go_wp2
    go_ret
    exact ⟨by simp, hB8.out⟩
  · obtain ⟨f1, f2, f3, f4, f5⟩ := free_taken hin.out hin6.out hs hv
    have g1 : freeL whole l6 0 a.fr = freeL whole l 0 a.fr := free_ahead (fr := 0) (tt := 0) hin.out hin6.out (fun u u0 u1 => by rw [hv u (by omega) (by omega), if_neg (by omega)]) (.inl rfl)
    rw [← hbf.out] at f1
    rw [← hah.out] at g1
    replace hs := Lib.hid hs; replace hall := Lib.hid hall; replace hv := Lib.hid hv; replace g1 := Lib.hid g1
    replace f1 := Lib.hid f1; replace f2 := Lib.hid f2; replace f3 := Lib.hid f3; replace f4 := Lib.hid f4; replace f5 := Lib.hid f5
    go_wp2_with fail
    refine (free_any pb sb6 cap6 whole l6 a.fr a.tt _ hp6.out hin6.out.loose).mono ?_
    rintro e w7 ⟨rfl, hb7⟩
    obtain ⟨nw, hnw⟩ : ∃ nw, nw = freeL whole l6 a.fr a.tt := ⟨_, rfl⟩
    rw [← hnw]
    have hncap := (free_min (whole := whole) hin6.out.loose a.fr a.tt).cap
    rw [← hnw] at hncap
    have hwr := right_iff.1 hin.out.right
    obtain ⟨nc1, nc2, nc3, nc4⟩ := hncap
    have n0 := f2.out; have n1 := f3.out; have n2 := f4.out; have n3 := f5.out
    have f1' := f1.out
    rw [← hnw] at n0 n1 n2 n3 f1'
    replace hnw := Lib.hid hnw
    have d0 : nw.a = bf.a - a.v.a := by rw [f1']; rfl
    have e0 : IntKind.i64.wrap (bf.a - a.v.a) = nw.a := by rw [IntWalk.i64_in _ (by omega)]; omega
    clear d0
    have d1 : nw.b = bf.b - a.v.b := by rw [f1']; rfl
    have e1 : IntKind.i64.wrap (bf.b - a.v.b) = nw.b := by rw [IntWalk.i64_in _ (by omega)]; omega
    clear d1
    have d2 : nw.c = bf.c - a.v.c := by rw [f1']; rfl
    have e2 : IntKind.i64.wrap (bf.c - a.v.c) = nw.c := by rw [IntWalk.i64_in _ (by omega)]; omega
    clear d2
    have d3 : nw.d = bf.d - a.v.d := by rw [f1']; rfl
    have e3 : IntKind.i64.wrap (bf.d - a.v.d) = nw.d := by rw [IntWalk.i64_in _ (by omega)]; omega
    clear d3
    replace f1' := Lib.hid f1'
    clear hwr nc1 nc2 nc3 nc4
    have hK7 := hK6.out.below hb7
    have hB7 : Below w.heap.size w w7 := hB6.out.trans (hb7.mono hB6.out.size)
    have hp7 := hp6.out.below hb7 hp6.out.lt.1 hp6.out.lt.2
    have hr7 := hr6.out.below hb7 hr6.out.lt
    have t7 := hb7.size
    have hsz := hsz5.out
    have k4 : w4.heap.size < w7.heap.size := hK7.lt (w4.heap.size, bf.obj) (by simp)
    have k5 : w5.heap.size < w7.heap.size := hK7.lt (w5.heap.size, ah.obj) (by simp)
    have k0 : w.heap.size + 1 < w7.heap.size := by omega
    clear z1 z2 z3 z4 z5 z6
    obtain ⟨x1, x2, x3, x4, x5, x6⟩ := act_cells (hK7.get (w.heap.size + 1) a.obj (by simp))
    obtain ⟨y1, y2, y3, y4⟩ := v4_cells (hK7.get (w4.heap.size) bf.obj (by simp))
    obtain ⟨u1, u2, u3, u4⟩ := v4_cells (hK7.get (w5.heap.size) ah.obj (by simp))
    replace hb7 := Lib.hid hb7; replace hB7 := Lib.hid hB7; replace hp7 := Lib.hid hp7; replace hr7 := Lib.hid hr7; replace hK7 := Lib.hid hK7
    go_wp2
    refine wp_loop_rounds 5 ?_
    rw [rounds_succ]
    go_wp2
    go_quiet (fail)
    go_wp2
    rw [rounds_succ]
    go_wp2
    go_quiet (fail)
    go_wp2
    rw [rounds_succ]
    go_wp2
    go_quiet (fail)
    go_wp2
    rw [rounds_succ]
    go_wp2
    go_quiet (fail)
    go_wp2
    rw [rounds_succ]
    go_wp2
    have hpW : Hid (∀ n, Prof ((w7.alloc nw.obj).drewN n).drew pb sb6 cap6 whole l6) := fun n => by
      have := hp7.out.below ((Below.refl _ _).alloc (Nat.le_refl _) nw.obj) hp7.out.lt.1 hp7.out.lt.2
      exact ⟨this.head, this.row.of_block rfl, this.ne⟩
    have hrW : Hid (∀ n, Row ((w7.alloc nw.obj).drewN n).drew sx cx l) := fun n => (hr7.out.below ((Below.refl _ _).alloc (Nat.le_refl _) nw.obj) hr7.out.lt).of_block rfl
    have hTW : Hid (∀ n, Two (w.heap.size + 1) w5.heap.size a ah ((w7.alloc nw.obj).drewN n).drew) := fun n => by
      have h0 : Two (w.heap.size + 1) w5.heap.size a ah w7 := ⟨hK7.out.get _ _ (by simp), hK7.out.get _ _ (by simp)⟩
      have h1 := h0.below ((Below.refl _ _).alloc (Nat.le_refl _) nw.obj)
      exact ⟨h1.1, h1.2⟩
    have hBW : Hid (∀ n, Below w.heap.size w ((w7.alloc nw.obj).drewN n).drew) := fun n => hB7.out.trans ((((Below.refl w.heap.size w7).alloc hB7.out.size nw.obj).trans (below_drewN _ _ n)).drew)
    have hfree : Hid (∀ w', Prof w' pb sb6 cap6 whole l6 → Calls Try.prog 22 #[.pointer (some ⟨pb, 0, none⟩), .int .i64 0, .int .i64 a.fr] w' fun e w'' => e = .returned ah.val ∧ Below w'.heap.size w' w'') := fun w' h => by
      have := free_any pb sb6 cap6 whole l6 0 a.fr w' h hin6.out.loose
      rwa [g1.out] at this
    have heq := eq23 ah ah
    simp at heq
    go_region_held3 (fun w' => w'.cell? ⟨w.heap.size + 1, 1, none⟩ = some (.int .i64 a.fr) ∧ w'.cell? ⟨w.heap.size + 1, 2, none⟩ = some (.int .i64 a.tt) ∧ w'.cell? ⟨w.heap.size + 1, 3, none⟩ = some (.int .i64 a.v.a) ∧ w'.cell? ⟨w.heap.size + 1, 4, none⟩ = some (.int .i64 a.v.b) ∧ w'.cell? ⟨w.heap.size + 1, 5, none⟩ = some (.int .i64 a.v.c) ∧ w'.cell? ⟨w.heap.size + 1, 6, none⟩ = some (.int .i64 a.v.d) ∧ w'.cell? ⟨w5.heap.size, 0, none⟩ = some (.int .i64 ah.a) ∧ w'.cell? ⟨w5.heap.size, 1, none⟩ = some (.int .i64 ah.b) ∧ w'.cell? ⟨w5.heap.size, 2, none⟩ = some (.int .i64 ah.c) ∧ w'.cell? ⟨w5.heap.size, 3, none⟩ = some (.int .i64 ah.d))
      (first
        | (go_keep; done)
        | exact hT8.out.held
        | exact hT9.out.held
        | exact hT10.out.held
        | exact hT11.out.held)
      (first
        | (go_at_call 22
           refine (hfree.out _ (hpW.out _)).mono ?_
           rintro e w8 ⟨rfl, hb8⟩
           have hp8 := (hpW.out _).below hb8 (hpW.out _).lt.1 (hpW.out _).lt.2
           have hr8 := (hrW.out _).below hb8 (hrW.out _).lt
           have hT8 := (hTW.out _).below hb8
           have hB8 := (hBW.out _).trans (hb8.mono (hBW.out _).size)
           replace hp8 := Lib.hid hp8; replace hr8 := Lib.hid hr8; replace hT8 := Lib.hid hT8; replace hB8 := Lib.hid hB8; replace hb8 := Lib.hid hb8)
        | (go_at_call 25
           refine (give_any pb sb6 cap6 whole l6 a.fr a.tt a.v _ hp8.out hin6.out.loose).mono ?_
           rintro e w9 ⟨r9, sb9, cap9, l9, rfl, hR9, hp9, hs9, hm9⟩
           obtain ⟨rfl, rfl⟩ := give_back hin.out hin6.out hs.out hv.out hR9
           have hT9 := hT8.out.mod hm9 (by have := hsb6.out; omega) (by have := hsb6.out; have := hpb6.out; omega)
           have hr9 := hr8.out.of_block (hm9.block sx hr8.out.lt (by have := hsb6.out; omega))
           have hB9 : Below w.heap.size w w9 := below_mod hB8.out hm9 (fun k h => by have := hsb6.out; rcases h with h | h <;> omega) hB8.out.size
           replace hp9 := Lib.hid hp9; replace hr9 := Lib.hid hr9; replace hT9 := Lib.hid hT9; replace hB9 := Lib.hid hB9; replace hm9 := Lib.hid hm9; replace hs9 := Lib.hid hs9; replace hR9 := Lib.hid hR9)
        | (go_at_call 21
           refine (steps_any pb sb9 cap9 whole _ _ hp9.out hin.out.loose).mono ?_
           rintro e w10 ⟨sy, cy, rfl, hr10, hsy, hb10⟩
           have hT10 := hT9.out.below hb10
           have hrr10 := hr9.out.below hb10 hr9.out.lt
           have hB10 : Below w.heap.size w w10 := hB9.out.trans (hb10.mono hB9.out.size)
           replace hr10 := Lib.hid hr10; replace hrr10 := Lib.hid hrr10; replace hT10 := Lib.hid hT10; replace hB10 := Lib.hid hB10; replace hb10 := Lib.hid hb10)
        | (go_at_call 24
           refine (same6_any sy cy sx cx _ _ _ hr10.out hrr10.out (by omega)).mono ?_
           rintro e w11 ⟨rfl, hb11⟩
           have hT11 := hT10.out.below hb11
           have hB11 : Below w.heap.size w w11 := hB10.out.trans (hb11.mono hB10.out.size)
           replace hT11 := Lib.hid hT11; replace hB11 := Lib.hid hB11; replace hb11 := Lib.hid hb11))
    go_wp2
    go_ret
    exact ⟨by simp, hB11.out⟩
end Go.Proofs.Ytpjajiambbobhaa
