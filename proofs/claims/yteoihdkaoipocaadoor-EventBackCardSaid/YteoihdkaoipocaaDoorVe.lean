/- Parts Ev0, Stl, Stx, Srf, Srn in one text. Plain theorems: no condition. -/
import Derived.Test.YteoihdkaoipocaaDoorVb
import Derived.Test.YteoihdkaoipocaaDoorVd
import Derived.Test.YteoihdkaoipocaaDoorVc
/- event.fields, event.Client: the fields of an event that are numbers. Plain theorems: no condition. -/
namespace Go.Proofs.YteoihdkaoipocaaDoor
open Go.RowKit Go.Maps

/-- an event's numbers -/
structure Evn where
  kind : Int
  epoch : Int
  tick : Int
  client : Int
  seq : Int
  job : Int
  attempt : Int
  node : Int
  how : Int
deriving DecidableEq
def Evn.get (e : Evn) : Nat → Int
  | 0 => e.kind
  | 1 => e.epoch
  | 2 => e.tick
  | 3 => e.client
  | 4 => e.seq
  | 5 => e.job
  | 6 => e.attempt
  | 7 => e.node
  | 8 => e.how
  | _ => 0
def Evn.set (e : Evn) (v : Int) : Nat → Evn
  | 1 => { e with epoch := v }
  | 2 => { e with tick := v }
  | 3 => { e with client := v }
  | 4 => { e with seq := v }
  | 5 => { e with job := v }
  | 6 => { e with attempt := v }
  | 7 => { e with node := v }
  | 8 => { e with how := v }
  | _ => e
/-- a field: its place, its least and its greatest number -/
abbrev Fld := Nat × Int × Int
def fldEp : Fld := (1, 1, 1099511627776)
def fldTk : Fld := (2, 0, 1099511627775)
def fldCl : Fld := (3, 1, 16)
def fldSq : Fld := (4, 1, 1099511627776)
def fldJb : Fld := (5, 1, 100)
def fldAt : Fld := (6, 1, 6)
def fldNd : Fld := (7, 0, 15)
def fldHw : Fld := (8, 1, 3)
def fldsOf (k : Int) : Option (List Fld) :=
  if k = 1 then some [fldEp] else if k = 2 then some [fldCl, fldSq] else if k = 3 ∨ k = 4 ∨ k = 5 then some [fldCl, fldSq, fldJb] else if k = 6 then some [fldTk]
  else if k = 7 then some [fldJb, fldAt, fldNd, fldHw] else if k = 8 ∨ k = 9 then some [fldNd, fldTk] else if k = 10 ∨ k = 11 then some [fldCl, fldSq, fldNd] else none
def fldV (eb : Nat) (f : Fld) : List Value := [.pointer (some ⟨eb, f.1, none⟩), .int .i64 f.2.1, .int .i64 f.2.2]
theorem fall_any (so : Option Addr) (n c : Nat) (w : World) : Calls Tryd.prog 126 #[.slice so n c] w fun e w' => e = .returned (.tuple #[.slice so n c, .bool true]) ∧ w' = w := by
  go_enter Tryd.func126, Tryd.ntmps126
  go_wp2
  go_ret2
  exact ⟨rfl, rfl⟩
def FldPost (eb : Nat) (fs : List Fld) (w : World) (e : Ending) (w' : World) : Prop :=
  ∃ g, e = .returned (.tuple #[.slice (some ⟨g, 0, none⟩) fs.length fs.length, .bool true]) ∧ w.heap.size ≤ g ∧ w'.heap[g]? = some (.cells (fs.flatMap (fldV eb)).toArray 126 (0, 0)) ∧ Below w.heap.size w w'
def FldP (k : Int) (eb : Nat) (w : World) (e : Ending) (w' : World) : Prop := match fldsOf k with
  | some fs => FldPost eb fs w e w'
  | none => e = .returned (.tuple #[.slice none 0 0, .bool false]) ∧ Below w.heap.size w w'
theorem fldp_yes {k : Int} {eb : Nat} {fs : List Fld} {w w' : World} {e : Ending} (ef : fldsOf k = some fs) (h : FldPost eb fs w e w') : FldP k eb w e w' := by unfold FldP; rw [ef]; exact h
theorem fldp_no {k : Int} {eb : Nat} {w w' : World} {e : Ending} (ef : fldsOf k = none) (h : e = .returned (.tuple #[.slice none 0 0, .bool false]) ∧ Below w.heap.size w w') : FldP k eb w e w' := by unfold FldP; rw [ef]; exact h
theorem alloc8 (w : World) (o0 o1 o2 o3 o4 o5 o6 o7 : Obj) : ((((((((w.alloc o0).alloc o1).alloc o2).alloc o3).alloc o4).alloc o5).alloc o6).alloc o7).heap[w.heap.size]? = some o0 ∧ ((((((((w.alloc o0).alloc o1).alloc o2).alloc o3).alloc o4).alloc o5).alloc o6).alloc o7).heap[w.heap.size + 1]? = some o1 ∧ ((((((((w.alloc o0).alloc o1).alloc o2).alloc o3).alloc o4).alloc o5).alloc o6).alloc o7).heap[w.heap.size + 1 + 1]? = some o2 ∧ ((((((((w.alloc o0).alloc o1).alloc o2).alloc o3).alloc o4).alloc o5).alloc o6).alloc o7).heap[w.heap.size + 1 + 1 + 1]? = some o3 ∧ ((((((((w.alloc o0).alloc o1).alloc o2).alloc o3).alloc o4).alloc o5).alloc o6).alloc o7).heap[w.heap.size + 1 + 1 + 1 + 1]? = some o4 ∧ ((((((((w.alloc o0).alloc o1).alloc o2).alloc o3).alloc o4).alloc o5).alloc o6).alloc o7).heap[w.heap.size + 1 + 1 + 1 + 1 + 1]? = some o5 ∧ ((((((((w.alloc o0).alloc o1).alloc o2).alloc o3).alloc o4).alloc o5).alloc o6).alloc o7).heap[w.heap.size + 1 + 1 + 1 + 1 + 1 + 1]? = some o6 ∧ ((((((((w.alloc o0).alloc o1).alloc o2).alloc o3).alloc o4).alloc o5).alloc o6).alloc o7).heap[w.heap.size + 1 + 1 + 1 + 1 + 1 + 1 + 1]? = some o7 ∧ Below w.heap.size w ((((((((w.alloc o0).alloc o1).alloc o2).alloc o3).alloc o4).alloc o5).alloc o6).alloc o7) := by
  exact ⟨blk_old o7 (blk_old o6 (blk_old o5 (blk_old o4 (blk_old o3 (blk_old o2 (blk_old o1 (blk_at w o0 (by simp)))))))), blk_old o7 (blk_old o6 (blk_old o5 (blk_old o4 (blk_old o3 (blk_old o2 (blk_at (w.alloc o0) o1 (by simp))))))), blk_old o7 (blk_old o6 (blk_old o5 (blk_old o4 (blk_old o3 (blk_at ((w.alloc o0).alloc o1) o2 (by simp)))))), blk_old o7 (blk_old o6 (blk_old o5 (blk_old o4 (blk_at (((w.alloc o0).alloc o1).alloc o2) o3 (by simp))))), blk_old o7 (blk_old o6 (blk_old o5 (blk_at ((((w.alloc o0).alloc o1).alloc o2).alloc o3) o4 (by simp)))), blk_old o7 (blk_old o6 (blk_at (((((w.alloc o0).alloc o1).alloc o2).alloc o3).alloc o4) o5 (by simp))), blk_old o7 (blk_at ((((((w.alloc o0).alloc o1).alloc o2).alloc o3).alloc o4).alloc o5) o6 (by simp)), blk_at (((((((w.alloc o0).alloc o1).alloc o2).alloc o3).alloc o4).alloc o5).alloc o6) o7 (by simp), ((((((((Below.refl _ _).alloc (by simp; try omega) _).alloc (by simp; try omega) _).alloc (by simp; try omega) _).alloc (by simp; try omega) _).alloc (by simp; try omega) _).alloc (by simp; try omega) _).alloc (by simp; try omega) _).alloc (by simp; try omega) _⟩
set_option maxRecDepth 100000 in
set_option maxHeartbeats 6400000 in
theorem fields_all {w : World} {eb : Nat} {k : Int} (h0 : w.cell? ⟨eb, 0, none⟩ = some (.int .i64 k)) : Calls Tryd.prog 93 #[.pointer (some ⟨eb, 0, none⟩)] w (FldP k eb w) := by
  have hlt := World.block_lt_of_cell? w _ h0
  obtain ⟨W, hW⟩ : ∃ W, W = ((((((((w.alloc (.cells #[.pointer (some ⟨eb, 1, none⟩), .int .i64 1, .int .i64 1099511627776] 126 (0, 0))).alloc (.cells #[.pointer (some ⟨eb, 2, none⟩), .int .i64 0, .int .i64 1099511627775] 126 (0, 0))).alloc (.cells #[.pointer (some ⟨eb, 3, none⟩), .int .i64 1, .int .i64 16] 126 (0, 0))).alloc (.cells #[.pointer (some ⟨eb, 4, none⟩), .int .i64 1, .int .i64 1099511627776] 126 (0, 0))).alloc (.cells #[.pointer (some ⟨eb, 5, none⟩), .int .i64 1, .int .i64 100] 126 (0, 0))).alloc (.cells #[.pointer (some ⟨eb, 6, none⟩), .int .i64 1, .int .i64 6] 126 (0, 0))).alloc (.cells #[.pointer (some ⟨eb, 7, none⟩), .int .i64 0, .int .i64 15] 126 (0, 0))).alloc (.cells #[.pointer (some ⟨eb, 8, none⟩), .int .i64 1, .int .i64 3] 126 (0, 0))) := ⟨_, rfl⟩
  obtain ⟨b0, b1, b2, b3, b4, b5, b6, b7, hlow⟩ := alloc8 w (.cells #[.pointer (some ⟨eb, 1, none⟩), .int .i64 1, .int .i64 1099511627776] 126 (0, 0)) (.cells #[.pointer (some ⟨eb, 2, none⟩), .int .i64 0, .int .i64 1099511627775] 126 (0, 0)) (.cells #[.pointer (some ⟨eb, 3, none⟩), .int .i64 1, .int .i64 16] 126 (0, 0)) (.cells #[.pointer (some ⟨eb, 4, none⟩), .int .i64 1, .int .i64 1099511627776] 126 (0, 0)) (.cells #[.pointer (some ⟨eb, 5, none⟩), .int .i64 1, .int .i64 100] 126 (0, 0)) (.cells #[.pointer (some ⟨eb, 6, none⟩), .int .i64 1, .int .i64 6] 126 (0, 0)) (.cells #[.pointer (some ⟨eb, 7, none⟩), .int .i64 0, .int .i64 15] 126 (0, 0)) (.cells #[.pointer (some ⟨eb, 8, none⟩), .int .i64 1, .int .i64 3] 126 (0, 0))
  rw [← hW] at b0 b1 b2 b3 b4 b5 b6 b7 hlow
  have y0 : W.cell? ⟨eb, 0, none⟩ = some (.int .i64 k) := (below_cell hlow hlt).trans h0
  have p00 : W.cell? ⟨w.heap.size, 0, none⟩ = some (.pointer (some ⟨eb, 1, none⟩)) := blk_cell b0 0
  have p01 : W.cell? ⟨w.heap.size, 1, none⟩ = some (.int .i64 1) := blk_cell b0 1
  have p02 : W.cell? ⟨w.heap.size, 2, none⟩ = some (.int .i64 1099511627776) := blk_cell b0 2
  have p10 : W.cell? ⟨w.heap.size + 1, 0, none⟩ = some (.pointer (some ⟨eb, 2, none⟩)) := blk_cell b1 0
  have p11 : W.cell? ⟨w.heap.size + 1, 1, none⟩ = some (.int .i64 0) := blk_cell b1 1
  have p12 : W.cell? ⟨w.heap.size + 1, 2, none⟩ = some (.int .i64 1099511627775) := blk_cell b1 2
  have p20 : W.cell? ⟨w.heap.size + 1 + 1, 0, none⟩ = some (.pointer (some ⟨eb, 3, none⟩)) := blk_cell b2 0
  have p21 : W.cell? ⟨w.heap.size + 1 + 1, 1, none⟩ = some (.int .i64 1) := blk_cell b2 1
  have p22 : W.cell? ⟨w.heap.size + 1 + 1, 2, none⟩ = some (.int .i64 16) := blk_cell b2 2
  have p30 : W.cell? ⟨w.heap.size + 1 + 1 + 1, 0, none⟩ = some (.pointer (some ⟨eb, 4, none⟩)) := blk_cell b3 0
  have p31 : W.cell? ⟨w.heap.size + 1 + 1 + 1, 1, none⟩ = some (.int .i64 1) := blk_cell b3 1
  have p32 : W.cell? ⟨w.heap.size + 1 + 1 + 1, 2, none⟩ = some (.int .i64 1099511627776) := blk_cell b3 2
  have p40 : W.cell? ⟨w.heap.size + 1 + 1 + 1 + 1, 0, none⟩ = some (.pointer (some ⟨eb, 5, none⟩)) := blk_cell b4 0
  have p41 : W.cell? ⟨w.heap.size + 1 + 1 + 1 + 1, 1, none⟩ = some (.int .i64 1) := blk_cell b4 1
  have p42 : W.cell? ⟨w.heap.size + 1 + 1 + 1 + 1, 2, none⟩ = some (.int .i64 100) := blk_cell b4 2
  have p50 : W.cell? ⟨w.heap.size + 1 + 1 + 1 + 1 + 1, 0, none⟩ = some (.pointer (some ⟨eb, 6, none⟩)) := blk_cell b5 0
  have p51 : W.cell? ⟨w.heap.size + 1 + 1 + 1 + 1 + 1, 1, none⟩ = some (.int .i64 1) := blk_cell b5 1
  have p52 : W.cell? ⟨w.heap.size + 1 + 1 + 1 + 1 + 1, 2, none⟩ = some (.int .i64 6) := blk_cell b5 2
  have p60 : W.cell? ⟨w.heap.size + 1 + 1 + 1 + 1 + 1 + 1, 0, none⟩ = some (.pointer (some ⟨eb, 7, none⟩)) := blk_cell b6 0
  have p61 : W.cell? ⟨w.heap.size + 1 + 1 + 1 + 1 + 1 + 1, 1, none⟩ = some (.int .i64 0) := blk_cell b6 1
  have p62 : W.cell? ⟨w.heap.size + 1 + 1 + 1 + 1 + 1 + 1, 2, none⟩ = some (.int .i64 15) := blk_cell b6 2
  have p70 : W.cell? ⟨w.heap.size + 1 + 1 + 1 + 1 + 1 + 1 + 1, 0, none⟩ = some (.pointer (some ⟨eb, 8, none⟩)) := blk_cell b7 0
  have p71 : W.cell? ⟨w.heap.size + 1 + 1 + 1 + 1 + 1 + 1 + 1, 1, none⟩ = some (.int .i64 1) := blk_cell b7 1
  have p72 : W.cell? ⟨w.heap.size + 1 + 1 + 1 + 1 + 1 + 1 + 1, 2, none⟩ = some (.int .i64 3) := blk_cell b7 2
  have hW2 := Lib.hid hW
  clear hW b0 b1 b2 b3 b4 b5 b6 b7
  replace hlow := Lib.hid hlow; replace h0 := Lib.hid h0
  go_enter Tryd.func93, Tryd.ntmps93
  go_upto_region 10 with fail
  rw [← hW2.out]
  clear hW2
  by_cases k1 : k = 1
  · subst k1
    have ef : fldsOf 1 = some [fldEp] := rfl
    replace ef := Lib.hid ef
    go_wp2_with fail
    refine (fall_any _ _ _ _).mono ?_
    rintro e w2 ⟨rfl, rfl⟩
    go_wp2
    go_ret2
    exact fldp_yes ef.out ⟨_, rfl, hlow.out.size, blk_new _ _, hlow.out.alloc hlow.out.size _⟩
  by_cases k2 : k = 2
  · subst k2
    have ef : fldsOf 2 = some [fldCl, fldSq] := rfl
    replace ef := Lib.hid ef
    go_wp2_with fail
    refine (fall_any _ _ _ _).mono ?_
    rintro e w2 ⟨rfl, rfl⟩
    go_wp2
    go_ret2
    exact fldp_yes ef.out ⟨_, rfl, hlow.out.size, blk_new _ _, hlow.out.alloc hlow.out.size _⟩
  by_cases k3 : k = 3
  · subst k3
    have ef : fldsOf 3 = some [fldCl, fldSq, fldJb] := rfl
    replace ef := Lib.hid ef
    go_wp2_with fail
    refine (fall_any _ _ _ _).mono ?_
    rintro e w2 ⟨rfl, rfl⟩
    go_wp2
    go_ret2
    exact fldp_yes ef.out ⟨_, rfl, hlow.out.size, blk_new _ _, hlow.out.alloc hlow.out.size _⟩
  by_cases k4 : k = 4
  · subst k4
    have ef : fldsOf 4 = some [fldCl, fldSq, fldJb] := rfl
    replace ef := Lib.hid ef
    go_wp2_with fail
    refine (fall_any _ _ _ _).mono ?_
    rintro e w2 ⟨rfl, rfl⟩
    go_wp2
    go_ret2
    exact fldp_yes ef.out ⟨_, rfl, hlow.out.size, blk_new _ _, hlow.out.alloc hlow.out.size _⟩
  by_cases k5 : k = 5
  · subst k5
    have ef : fldsOf 5 = some [fldCl, fldSq, fldJb] := rfl
    replace ef := Lib.hid ef
    go_wp2_with fail
    refine (fall_any _ _ _ _).mono ?_
    rintro e w2 ⟨rfl, rfl⟩
    go_wp2
    go_ret2
    exact fldp_yes ef.out ⟨_, rfl, hlow.out.size, blk_new _ _, hlow.out.alloc hlow.out.size _⟩
  by_cases k6 : k = 6
  · subst k6
    have ef : fldsOf 6 = some [fldTk] := rfl
    replace ef := Lib.hid ef
    go_wp2_with fail
    refine (fall_any _ _ _ _).mono ?_
    rintro e w2 ⟨rfl, rfl⟩
    go_wp2
    go_ret2
    exact fldp_yes ef.out ⟨_, rfl, hlow.out.size, blk_new _ _, hlow.out.alloc hlow.out.size _⟩
  by_cases k7 : k = 7
  · subst k7
    have ef : fldsOf 7 = some [fldJb, fldAt, fldNd, fldHw] := rfl
    replace ef := Lib.hid ef
    go_wp2_with fail
    refine (fall_any _ _ _ _).mono ?_
    rintro e w2 ⟨rfl, rfl⟩
    go_wp2
    go_ret2
    exact fldp_yes ef.out ⟨_, rfl, hlow.out.size, blk_new _ _, hlow.out.alloc hlow.out.size _⟩
  by_cases k8 : k = 8
  · subst k8
    have ef : fldsOf 8 = some [fldNd, fldTk] := rfl
    replace ef := Lib.hid ef
    go_wp2_with fail
    refine (fall_any _ _ _ _).mono ?_
    rintro e w2 ⟨rfl, rfl⟩
    go_wp2
    go_ret2
    exact fldp_yes ef.out ⟨_, rfl, hlow.out.size, blk_new _ _, hlow.out.alloc hlow.out.size _⟩
  by_cases k9 : k = 9
  · subst k9
    have ef : fldsOf 9 = some [fldNd, fldTk] := rfl
    replace ef := Lib.hid ef
    go_wp2_with fail
    refine (fall_any _ _ _ _).mono ?_
    rintro e w2 ⟨rfl, rfl⟩
    go_wp2
    go_ret2
    exact fldp_yes ef.out ⟨_, rfl, hlow.out.size, blk_new _ _, hlow.out.alloc hlow.out.size _⟩
  by_cases k10 : k = 10
  · subst k10
    have ef : fldsOf 10 = some [fldCl, fldSq, fldNd] := rfl
    replace ef := Lib.hid ef
    go_wp2_with fail
    refine (fall_any _ _ _ _).mono ?_
    rintro e w2 ⟨rfl, rfl⟩
    go_wp2
    go_ret2
    exact fldp_yes ef.out ⟨_, rfl, hlow.out.size, blk_new _ _, hlow.out.alloc hlow.out.size _⟩
  by_cases k11 : k = 11
  · subst k11
    have ef : fldsOf 11 = some [fldCl, fldSq, fldNd] := rfl
    replace ef := Lib.hid ef
    go_wp2_with fail
    refine (fall_any _ _ _ _).mono ?_
    rintro e w2 ⟨rfl, rfl⟩
    go_wp2
    go_ret2
    exact fldp_yes ef.out ⟨_, rfl, hlow.out.size, blk_new _ _, hlow.out.alloc hlow.out.size _⟩
  have ef : fldsOf k = none := by unfold fldsOf; rw [if_neg k1, if_neg k2, if_neg (by omega), if_neg k6, if_neg k7, if_neg (by omega), if_neg (by omega)]
  replace ef := Lib.hid ef
  have d1 : (k == (1 : Int)) = false := beq_eq_false_iff_ne.2 k1
  have d2 : (k == (2 : Int)) = false := beq_eq_false_iff_ne.2 k2
  have d3 : (k == (3 : Int)) = false := beq_eq_false_iff_ne.2 k3
  have d4 : (k == (4 : Int)) = false := beq_eq_false_iff_ne.2 k4
  have d5 : (k == (5 : Int)) = false := beq_eq_false_iff_ne.2 k5
  have d6 : (k == (6 : Int)) = false := beq_eq_false_iff_ne.2 k6
  have d7 : (k == (7 : Int)) = false := beq_eq_false_iff_ne.2 k7
  have d8 : (k == (8 : Int)) = false := beq_eq_false_iff_ne.2 k8
  have d9 : (k == (9 : Int)) = false := beq_eq_false_iff_ne.2 k9
  have d10 : (k == (10 : Int)) = false := beq_eq_false_iff_ne.2 k10
  have d11 : (k == (11 : Int)) = false := beq_eq_false_iff_ne.2 k11
  replace k1 := Lib.hid k1; replace k2 := Lib.hid k2; replace k3 := Lib.hid k3; replace k4 := Lib.hid k4; replace k5 := Lib.hid k5; replace k6 := Lib.hid k6; replace k7 := Lib.hid k7; replace k8 := Lib.hid k8; replace k9 := Lib.hid k9; replace k10 := Lib.hid k10; replace k11 := Lib.hid k11
  go_wp2
  go_ret2
  exact fldp_no ef.out ⟨rfl, hlow.out⟩
end Go.Proofs.YteoihdkaoipocaaDoor

/- strconv.Itoa, spec.list, spec.Text's put. -/
namespace Go.Proofs.YteoihdkaoipocaaDoor
open Go.RowKit Go.Maps Go.Shelf Go.Sort

theorem itoa_call (n : Int) (h0 : -9223372036854775808 ≤ n) (h1 : n ≤ 9223372036854775807) (w : World) (ht : Tb w) : Calls Tryd.prog 74 #[.int .i64 n] w fun e w' => e = .returned (.string (ofL (Lib.itoa n))) ∧ Below w.heap.size w w' :=
  (Tryd.strconv_Itoa n h0 h1 w ht.here).mono fun e w' ⟨he, k, os, hw⟩ => ⟨he, by subst hw; exact Lib.below_grow _ _ (Nat.le_refl _) k os⟩

theorem txts_join (xs : List (List UInt8)) : (xs.map ofL).map (·.data.toList) = xs := by
  rw [List.map_map]
  rw [show ((fun (x : ByteArray) => x.data.toList) ∘ ofL) = id from by funext x; exact ofL_toL x, List.map_id]
/-- a row of texts of one's own, joined -/
theorem joinO_call {w : World} {B : Nat} {v : Value} {xs : List ByteArray} (h : OwnT w B v xs) (sep : ByteArray) (hN : xs.length ≤ 4096) (hlen : (Lib.join (xs.map (·.data.toList)) sep.data.toList).length ≤ 140737488355328) :
    Calls Tryd.prog 77 #[v, .string sep] w fun e w' => e = .returned (.string (ofL (Lib.join (xs.map (·.data.toList)) sep.data.toList))) ∧ Below w.heap.size w w' := by
  rcases h.row.2 with ⟨hv, h0⟩ | ⟨g, cap, cur, hv, hg, hh, hn, hm, hr⟩
  · have : xs = [] := List.length_eq_zero_iff.1 h0
    subst this
    subst hv
    refine (Tryd.strings_Join_none none 0 sep w).mono ?_
    rintro e w' ⟨rfl, rfl⟩
    exact ⟨rfl, Below.refl _ _⟩
  · have hrow := h.row
    rw [hv] at hrow
    rw [hv]
    exact Tryd.strings_Join g 0 cap xs sep w (fun j x hx => by
      have hi := (List.getElem?_eq_some_iff.1 hx).1
      rw [Nat.zero_add, World.ownsRow.cellAt hrow j (by omega), txts, List.getElem?_map, hx]; rfl) (blk_lt hh) (by omega) (by have := owns_cap hrow; omega) hlen
theorem ownT_low {w w' : World} {B : Nat} {v : Value} {xs : List ByteArray} (h : OwnT w B v xs) (hb : Below w.heap.size w w') : OwnT w' B v xs := by
  refine ⟨h.row.1, ?_⟩
  rcases h.row.2 with ⟨hv, h0⟩ | ⟨g, cap, cur, hv, hg, hh, hr⟩
  · exact .inl ⟨hv, h0⟩
  · exact .inr ⟨g, cap, cur, hv, hg, blk_below hb hh (blk_lt hh), hr⟩

set_option maxRecDepth 100000 in
set_option maxHeartbeats 1600000 in
theorem list_any (so : Option Addr) (n c : Nat) (xs : List Int) (w : World) (h : IntsAt w so n xs) (hw8 : waitsL xs = true) (ht : Tb w) : Calls Tryd.prog 76 #[.slice so n c] w fun e w' => e = .returned (.string (ofL (listT xs))) ∧ Below w.heap.size w w' := by
  obtain ⟨i9, hi9, hz9, hz91, hz92⟩ := info_parts info9
  have hlen := h.len
  have h8 := waits_len hw8
  rw [hlen] at h8
  have hll := listT_len hw8
  have hall := waits_all hw8
  replace h := Lib.hid h; replace hlen := Lib.hid hlen; replace hw8 := Lib.hid hw8; replace hi9 := Lib.hid hi9; replace hz9 := Lib.hid hz9; replace hz91 := Lib.hid hz91; replace hz92 := Lib.hid hz92; replace hll := Lib.hid hll; replace hall := Lib.hid hall; replace ht := Lib.hid ht
  go_enter Tryd.func76, Tryd.ntmps76
  go_wp2
  go_loopw [3, 5, 8] (fun ov _ i wr => ∃ k : Nat, i = .int .i64 k ∧ k ≤ n ∧ Hid (OwnT wr w.heap.size ov (((xs.take k).map Lib.itoa).map ofL)) ∧ Hid (Below w.heap.size w wr)) (fun _ _ i _ => n - (intOf i).toNat)
  case atStart => exact ⟨0, rfl, Nat.zero_le _, own_empty _ _, Below.refl _ _⟩
  case round =>
    obtain ⟨k, rfl, hk, hO, hB⟩ := hrel
    by_cases hc : k < n
    · have hc1 : (k : Int) < n := by omega
      have hk0 : (0 : Int) ≤ (k : Int) := by omega
      have hh := h.out.low hB.out
      obtain ⟨y, hy⟩ := hh.get hc
      obtain ⟨b, off, rfl, hb, a0⟩ := hh.cell k y hy
      have hbd := okw_bd (hall.out y (List.mem_of_getElem? hy))
      have hci := fun W => itoa_call y (by omega) (by omega) W
      obtain ⟨A, hA⟩ : ∃ A, A = ofL (Lib.itoa y) := ⟨_, rfl⟩
      rw [← hA] at hci
      have htr := ht.out.low hB.out
      have hst : ((xs.take (k + 1)).map Lib.itoa).map ofL = ((xs.take k).map Lib.itoa).map ofL ++ [A] := by
        rw [List.take_add_one, hy]; simp [hA]
      replace hh := Lib.hid hh; replace hy := Lib.hid hy; replace hbd := Lib.hid hbd; replace hci := Lib.hid hci; replace hA := Lib.hid hA; replace htr := Lib.hid htr; replace hst := Lib.hid hst
      go_wp2_with fail
      refine (hci.out _ htr.out).mono ?_
      rintro e w2 ⟨rfl, hb2⟩
      have hO2 := ownT_low hO.out hb2
      have hlow2 := hB.out.trans (hb2.mono hB.out.size)
      obtain ⟨L, hL⟩ : ∃ L, L = (((xs.take k).map Lib.itoa).map ofL).length := ⟨_, rfl⟩
      have hLk : L ≤ 8 := by rw [hL]; simp; omega
      have hownA : (w2.alloc (.cells #[.string A] 9 (0, 0))).ownsRow w.heap.size 9 1 u3 L (txts (((xs.take k).map Lib.itoa).map ofL)) := by rw [hL]; exact hO2.row.alloc (.cells #[.string A] 9 (0, 0))
      have hnews := str_new w2 A
      have hone := str_one A
      have h63 := maxLen_ge (n := L) (by omega)
      have hby : (L + 1) * 16 ≤ 140737488355328 := by omega
      have hbas : w.heap.size ≤ (w2.alloc (.cells #[.string A] 9 (0, 0))).heap.size := by have := hlow2.size; simp; omega
      clear a0
      replace hb2 := Lib.hid hb2; replace hO2 := Lib.hid hO2; replace hlow2 := Lib.hid hlow2; replace hL := Lib.hid hL; replace hownA := Lib.hid hownA; replace hnews := Lib.hid hnews; replace hone := Lib.hid hone; replace h63 := Lib.hid h63; replace hby := Lib.hid hby; replace hbas := Lib.hid hbas
      go_wp2_with (at_builtin; refine wpList_append_own _ rfl _ _ 36 rfl (w.heap.size) 9 i9 _ 1 16 Tryd.underlying36 hi9.out hz9.out hz91.out hz92.out rfl Nat.one_pos _ L _ rfl hownA.out ⟨w2.heap.size, 0, none⟩ 1 1 [.string A] rfl rfl hnews.out hone.out h63.out hby.out hbas.out ?_; intro v1 w9 hown9 hgrow _; obtain ⟨g9, cap9, rfl⟩ := Joins.ownsRow_form hown9 (Nat.succ_pos _); replace hown9 := Lib.hid hown9; replace hgrow := Lib.hid hgrow)
      have hO9 : OwnT w9 w.heap.size (.slice (some ⟨g9, 0, none⟩) (L + 1) cap9) (((xs.take (k + 1)).map Lib.itoa).map ofL) := by
        rw [hst.out]
        refine ⟨?_⟩
        rw [List.length_append, ← hL.out]
        simpa [txts] using hown9.out
      have hB9 : Below w.heap.size w w9 := (hlow2.out.alloc hlow2.out.size _).grown hgrow.out hbas.out (fun j e => (hO2.out.row.lt j e).1)
      replace hO9 := Lib.hid hO9; replace hB9 := Lib.hid hB9
      go_wp2
      go_roundw
      case rel => exact ⟨k + 1, by go_num, by omega, hO9.out, hB9.out⟩
      case measure => simp [intOf]; omega
    · have hc1 : ¬ (k : Int) < n := by omega
      have hkn : xs.take k = xs := List.take_of_length_le (by rw [hlen.out]; omega)
      have hO2 := hO.out
      rw [hkn] at hO2
      have hll2 := hll.out
      unfold listT at hll2
      have hj := joinO_call hO2 { data := #[44] } (by rw [List.length_map, List.length_map, hlen.out]; omega) (by rw [txts_join]; show (Lib.join (xs.map Lib.itoa) [44]).length ≤ _; omega)
      rw [txts_join] at hj
      replace hkn := Lib.hid hkn; replace hO2 := Lib.hid hO2; replace hll2 := Lib.hid hll2; replace hj := Lib.hid hj
      go_wp2_with fail
      refine hj.out.mono ?_
      rintro e w2 ⟨rfl, hb2⟩
      replace hb2 := Lib.hid hb2
      go_wp2
      go_ret
      exact ⟨rfl, hB.out.trans (hb2.out.mono hB.out.size)⟩

/-- the words so far, in a variable of the call's own -/
structure PutW (vb : Nat) (xs : List ByteArray) (W : World) : Prop where
  ex : ∃ sv, W.heap[vb]? = some (.cells #[sv] 36 (0, 0)) ∧ OwnT W (vb + 1) sv xs
theorem PutW.low {vb : Nat} {xs : List ByteArray} {W W' : World} (h : PutW vb xs W) (hb : Below W.heap.size W W') : PutW vb xs W' := by
  obtain ⟨sv, h1, h2⟩ := h.ex
  exact ⟨sv, blk_below hb h1 (blk_lt h1), ownT_low h2 hb⟩
theorem PutW.lt {vb : Nat} {xs : List ByteArray} {W : World} (h : PutW vb xs W) : vb < W.heap.size := by
  obtain ⟨sv, h1, _⟩ := h.ex
  exact blk_lt h1
def kvB (k v : ByteArray) : ByteArray := k ++ ({ data := #[61] } : ByteArray) ++ v
theorem kvB_eq (k : ByteArray) (v : List UInt8) : kvB k (ofL v) = ofL (kv k v) := by
  unfold kvB kv
  rw [show ({ data := #[61] } : ByteArray) = ofL [61] from rfl]
  conv => lhs; rw [← ofL_self k]
  rw [ofL_app, ofL_app]
  simp
set_option maxRecDepth 100000 in
set_option maxHeartbeats 800000 in
theorem putno_any (vb : Nat) (k v : ByteArray) (W : World) : Calls Tryd.prog 73 #[.string k, .string v, .string v, .pointer (some ⟨vb, 0, none⟩)] W fun e w' => e = .returned (.tuple #[]) ∧ w' = W := by
  have d := str_eqn (p := v) rfl
  have d2 := str_eq (p := v) rfl
  go_enter Tryd.func73, Tryd.ntmps73
  go_wp2
  go_end0
  exact ⟨rfl, rfl⟩
set_option maxRecDepth 100000 in
set_option maxHeartbeats 800000 in
theorem putyes_any (vb : Nat) (xs : List ByteArray) (k v u : ByteArray) (W : World) (h : PutW vb xs W) (hl : xs.length ≤ 100) (hu : v ≠ u) (hk : k.size ≤ 100) (hv : v.size ≤ 4096) : Calls Tryd.prog 73 #[.string k, .string v, .string u, .pointer (some ⟨vb, 0, none⟩)] W fun e w' => e = .returned (.tuple #[]) ∧ PutW vb (xs ++ [kvB k v]) w' ∧ Below vb W w' := by
  obtain ⟨i9, hi9, hz9, hz91, hz92⟩ := info_parts info9
  have d := str_nen hu
  have d2 := str_ne hu
  have hlt := h.lt
  obtain ⟨sv, h1, h2⟩ := h.ex
  obtain ⟨L, hL⟩ : ∃ L, L = xs.length := ⟨_, rfl⟩
  have c0 := blk_cell h1 0
  have f0 := blk_free h1 0
  simp at c0
  obtain ⟨A, hA⟩ : ∃ A, A = kvB k v := ⟨_, rfl⟩
  have hA' : k ++ ({ data := #[61] } : ByteArray) ++ v = A := hA.symm
  have q1 : ¬ 9223372036854775807 < k.size + 1 := by omega
  have q2 : ¬ 9223372036854775807 < k.size + 1 + v.size := by omega
  have hownA : (W.alloc (.cells #[.string A] 9 (0, 0))).ownsRow (vb + 1) 9 1 sv L (txts xs) := by rw [hL]; exact h2.row.alloc (.cells #[.string A] 9 (0, 0))
  have hnews := str_new W A
  have hone := str_one A
  have h63 := maxLen_ge (n := L) (by omega)
  have hby : (L + 1) * 16 ≤ 140737488355328 := by omega
  have hbas : vb + 1 ≤ (W.alloc (.cells #[.string A] 9 (0, 0))).heap.size := by simp; omega
  have hkeep : ∀ w9 : World, (W.alloc (.cells #[.string A] 9 (0, 0))).grownBy w9 sv.ownBlock → w9.heap[vb]? = some (.cells #[sv] 36 (0, 0)) := fun w9 hg => by
    refine (hg.block vb (by rw [World.size_alloc]; omega) (fun e => ?_)).trans (blk_old (.cells #[.string A] 9 (0, 0)) h1)
    have := (h2.row.lt vb e.symm).1
    omega
  have hsv : sv = .slice none 0 0 ∨ ∃ g n c, sv = .slice (some ⟨g, 0, none⟩) n c := by
    rcases h2.row.2 with ⟨hv, _⟩ | ⟨g, cap, cur, hv, _⟩
    · exact .inl hv
    · exact .inr ⟨g, _, cap, hv⟩
  replace h := Lib.hid h; replace h1 := Lib.hid h1; replace h2 := Lib.hid h2; replace hL := Lib.hid hL; replace hA := Lib.hid hA; replace hownA := Lib.hid hownA; replace hnews := Lib.hid hnews; replace hone := Lib.hid hone; replace h63 := Lib.hid h63; replace hby := Lib.hid hby; replace hbas := Lib.hid hbas; replace hkeep := Lib.hid hkeep; replace hi9 := Lib.hid hi9; replace hz9 := Lib.hid hz9; replace hz91 := Lib.hid hz91; replace hz92 := Lib.hid hz92; replace hu := Lib.hid hu; replace hk := Lib.hid hk; replace hv := Lib.hid hv; replace hlt := Lib.hid hlt
  have hA2 := hA'
  replace hA2 := Lib.hid hA2
  rcases hsv with rfl | ⟨g, n, c, rfl⟩
  all_goals
    go_enter Tryd.func73, Tryd.ntmps73
    go_wp2_with (at_builtin; refine wpList_append_own _ rfl _ _ 36 rfl (vb + 1) 9 i9 _ 1 16 Tryd.underlying36 hi9.out hz9.out hz91.out hz92.out rfl Nat.one_pos _ L _ rfl hownA.out ⟨W.heap.size, 0, none⟩ 1 1 [.string A] rfl rfl hnews.out hone.out h63.out hby.out hbas.out ?_; intro v1 w9 hown9 hgrow _; have hk9 := hkeep.out w9 hgrow; have z9 := blk_cell hk9 0; have zf9 := blk_free hk9 0; simp at z9; obtain ⟨g9, cap9, rfl⟩ := Joins.ownsRow_form hown9 (Nat.succ_pos _); replace hown9 := Lib.hid hown9; replace hgrow := Lib.hid hgrow; replace hk9 := Lib.hid hk9)
    have hb9 : Below vb W w9 := ((Below.refl vb W).alloc (by have := hlt.out; omega) _).grown hgrow.out (by have := hlt.out; simp; omega) (fun j e => by have := (h2.out.row.lt j e).1; omega)
    have hP9 : PutW vb (xs ++ [kvB k v]) (w9.setCell ⟨vb, 0, none⟩ (.slice (some ⟨g9, 0, none⟩) (L + 1) cap9)) := by
      refine ⟨_, blk_set hk9.out 0 _, ⟨?_⟩⟩
      have hg := (World.ownsRow.lt hown9.out g9 rfl).1
      have h := hown9.out
      rw [List.length_append, ← hL.out, ← hA.out]
      refine ⟨by simp [txts, hL.out], .inr ?_⟩
      rcases h.2 with ⟨hv, _⟩ | ⟨g', cap', cur, hv, hg', hh, hr⟩
      · cases hv
      · cases hv
        refine ⟨g9, cap9, cur, rfl, hg', blk_set_other (by omega) _ hh, ?_⟩
        simpa [txts] using hr
    replace hb9 := Lib.hid hb9; replace hP9 := Lib.hid hP9
    go_wp2
    go_end0
    exact ⟨rfl, hP9.out, hb9.out.setCell (Nat.le_refl _) _⟩
end Go.Proofs.YteoihdkaoipocaaDoor

/- spec.Text: a spec's text. -/
namespace Go.Proofs.YteoihdkaoipocaaDoor
open Go.RowKit Go.Maps Go.Shelf Go.Sort

/-- one word more, unless it is the usual one -/
def putX (k v u : ByteArray) (xs : List ByteArray) : List ByteArray := if v = u then xs else xs ++ [kvB k v]
theorem putw_any (vb : Nat) (xs : List ByteArray) (k v u : ByteArray) (W : World) (h : PutW vb xs W) (hl : xs.length ≤ 100) (hk : k.size ≤ 100) (hv : v.size ≤ 4096) : Calls Tryd.prog 73 #[.string k, .string v, .string u, .pointer (some ⟨vb, 0, none⟩)] W fun e w' => e = .returned (.tuple #[]) ∧ PutW vb (putX k v u xs) w' ∧ Below vb W w' := by
  unfold putX
  by_cases c : v = u
  · rw [if_pos c]
    subst c
    refine (putno_any vb k v W).mono ?_
    rintro e w' ⟨rfl, rfl⟩
    exact ⟨rfl, h, Below.refl _ _⟩
  · rw [if_neg c]
    exact putyes_any vb xs k v u W h hl c hk hv
theorem putX_len {k v u : ByteArray} {xs : List ByteArray} {n : Nat} (h : xs.length ≤ n) : (putX k v u xs).length ≤ n + 1 := by
  unfold putX
  split
  · omega
  · simp; omega
theorem putX_yes {k v u : ByteArray} {xs : List ByteArray} (h : v ≠ u) : putX k v u xs = xs ++ [kvB k v] := if_neg h
theorem itoa_is {n m : Int} (h0 : 0 ≤ n) (h1 : n ≤ 1099511627776) {u : ByteArray} (hu : numOf u 13 = m) (h : ofL (Lib.itoa n) = u) : n = m := by
  rw [← numOf_itoa13 h0 h1, h, hu]
theorem itoa_ne {n : Int} : ofL (Lib.itoa n) ≠ { data := #[] } := fun h => by
  have : Lib.itoa n = [] := ofL_inj (h.trans (show ({ data := #[] } : ByteArray) = ofL [] from rfl))
  by_cases c : n < 0
  · rw [itoa_neg c] at this; cases this
  · rw [itoa_pos (by omega)] at this; exact dec_ne _ this
theorem itoa_zero : ofL (Lib.itoa 0) = { data := #[48] } := by
  rw [itoa_pos (by decide), Lib.decDigits, dif_pos (by decide)]; rfl
theorem itoa_one : ofL (Lib.itoa 1) = { data := #[49] } := by
  rw [itoa_pos (by decide), Lib.decDigits, dif_pos (by decide)]; rfl
theorem listT_ne {l : List Int} (h : waitsL l = true) (hne : l ≠ []) : ofL (listT l) ≠ { data := #[] } := fun e => by
  have h1 := rowN_list h hne
  rw [e] at h1
  have h2 : rowN { data := #[] } = none := by decide
  rw [h2] at h1; cases h1
theorem txtV_ne (v : V4) : ofL (txtV v) ≠ { data := #[] } := fun h => by
  have : txtV v = [] := ofL_inj (h.trans (show ({ data := #[] } : ByteArray) = ofL [] from rfl))
  unfold txtV at this
  simp at this
theorem name_ne {s : ByteArray} (h : isName s = true) : s ≠ { data := #[] } := fun e => by
  subst e
  exact absurd h (by decide)
/-- what is put, word by word -/
def putAll (s : Spp) : List ByteArray :=
  putX kAfter (ofL (listT s.after)) { data := #[] } ((if s.held = true then putX kHeld { data := #[49] } { data := #[] } else id) (putX kRetries (ofL (Lib.itoa s.retries)) { data := #[48] } (putX kArray (ofL (Lib.itoa s.array)) { data := #[49] } (putX kPrio (ofL (Lib.itoa s.prio)) { data := #[48] }
    (putX kWall (ofL (Lib.itoa s.wall)) { data := #[] } (putX kDemand (ofL (txtV s.dem)) { data := #[] } (putX kNodes (ofL (Lib.itoa s.nodes)) { data := #[] } (putX kPart s.part { data := #[] } (putX kUser s.user { data := #[] } [])))))))))
theorem putAll_eq {s : Spp} (hs : mayS s = true) : putAll s = (pairsS s).map fun p => ofL (kv p.1 p.2) := by
  obtain ⟨q1, q2, q3, q4, q5, q6, q7, q8, q9⟩ := mayS_parts hs
  have b7 := betw_iff.1 q7
  have b8 := betw_iff.1 q8
  have b9 := betw_iff.1 q9
  unfold putAll
  rw [putX_yes (name_ne q1), putX_yes (name_ne q2), putX_yes itoa_ne, putX_yes (txtV_ne _), putX_yes itoa_ne]
  unfold pairsS
  simp only [List.map_append, List.map_cons, List.map_nil]
  have ek : ∀ (k : ByteArray) (s : ByteArray), ofL (kv k s.data.toList) = kvB k s := fun k s => by rw [← kvB_eq, ofL_self]
  rw [ek, ek]
  simp only [← kvB_eq]
  generalize kvB kUser s.user = a1
  generalize kvB kPart s.part = a2
  generalize kvB kNodes (ofL (Lib.itoa s.nodes)) = a3
  generalize kvB kDemand (ofL (txtV s.dem)) = a4
  generalize kvB kWall (ofL (Lib.itoa s.wall)) = a5
  have e1 : ∀ xs, putX kPrio (ofL (Lib.itoa s.prio)) { data := #[48] } xs = xs ++ List.map (fun p => kvB p.1 (ofL p.2)) (if s.prio = 0 then [] else [(kPrio, Lib.itoa s.prio)]) := fun xs => by
    by_cases c : s.prio = 0
    · rw [if_pos c, c]; unfold putX; rw [if_pos itoa_zero]; simp
    · rw [if_neg c, putX_yes (fun h => c (itoa_is b7.1 (by omega) (by decide) h))]; rfl
  have e2 : ∀ xs, putX kArray (ofL (Lib.itoa s.array)) { data := #[49] } xs = xs ++ List.map (fun p => kvB p.1 (ofL p.2)) (if s.array = 1 then [] else [(kArray, Lib.itoa s.array)]) := fun xs => by
    by_cases c : s.array = 1
    · rw [if_pos c, c]; unfold putX; rw [if_pos itoa_one]; simp
    · rw [if_neg c, putX_yes (fun h => c (itoa_is (by omega) (by omega) (by decide) h))]; rfl
  have e3 : ∀ xs, putX kRetries (ofL (Lib.itoa s.retries)) { data := #[48] } xs = xs ++ List.map (fun p => kvB p.1 (ofL p.2)) (if s.retries = 0 then [] else [(kRetries, Lib.itoa s.retries)]) := fun xs => by
    by_cases c : s.retries = 0
    · rw [if_pos c, c]; unfold putX; rw [if_pos itoa_zero]; simp
    · rw [if_neg c, putX_yes (fun h => c (itoa_is b9.1 (by omega) (by decide) h))]; rfl
  have e4 : ∀ xs : List ByteArray, (if s.held = true then putX kHeld { data := #[49] } { data := #[] } else id) xs = xs ++ List.map (fun p => kvB p.1 (ofL p.2)) (if s.held = true then [(kHeld, [49])] else []) := fun xs => by
    by_cases c : s.held = true
    · rw [if_pos c, if_pos c, putX_yes (by decide)]; rfl
    · rw [if_neg c, if_neg c]; simp
  have e5 : ∀ xs, putX kAfter (ofL (listT s.after)) { data := #[] } xs = xs ++ List.map (fun p => kvB p.1 (ofL p.2)) (if s.after = [] then [] else [(kAfter, listT s.after)]) := fun xs => by
    by_cases c : s.after = []
    · rw [if_pos c, c]; unfold putX; rw [if_pos (show ofL (listT []) = { data := #[] } from rfl)]; simp
    · rw [if_neg c, putX_yes (listT_ne q4 c)]; rfl
  rw [e1, e2, e3, e4, e5]
  simp
theorem putAll_join {s : Spp} (hs : mayS s = true) : Lib.join ((putAll s).map (·.data.toList)) [32] = textS s := by
  rw [putAll_eq hs, textS_may hs, List.map_map]
  unfold kvs
  congr 1
theorem textS_len {s : Spp} (hs : mayS s = true) : (textS s).length ≤ 1810 := by
  rw [textS_may hs]
  exact join_size hs (fun p h => h) (pairs_len s)

/-- what stands while words are put -/
structure StW (w : World) (x : Spv) (vb m : Nat) (xs : List ByteArray) (W : World) : Prop where
  low : Below w.heap.size w W
  box : W.heap[w.heap.size]? = some (.cells x.cells 28 (0, 0))
  put : PutW vb xs W
  lt : w.heap.size < vb
  few : xs.length ≤ m
theorem StW.on {w W W' : World} {x : Spv} {vb m : Nat} {xs : List ByteArray} (h : StW w x vb m xs W) (hb : Below W.heap.size W W') : StW w x vb m xs W' :=
  ⟨h.low.trans (hb.mono h.low.size), blk_below hb h.box (blk_lt h.box), h.put.low hb, h.lt, h.few⟩
theorem StW.step {w W W' : World} {x : Spv} {vb m : Nat} {xs : List ByteArray} {k v u : ByteArray} (h : StW w x vb m xs W) (hp : PutW vb (putX k v u xs) W') (hb : Below vb W W') : StW w x vb (m + 1) (putX k v u xs) W' :=
  ⟨h.low.trans (hb.mono (Nat.le_of_lt h.lt)), blk_below hb h.box h.lt, hp, h.lt, putX_len h.few⟩
set_option maxRecDepth 100000 in
set_option maxHeartbeats 3200000 in
theorem stext_any (x : Spv) (w : World) (hx : x.ok w) (ht : Tb w) : Calls Tryd.prog 27 #[x.val] w fun e w' => e = .returned (.string (ofL (textS x.pl))) ∧ Below w.heap.size w w' := by
  have hB0 := BoxC.new w x
  have hk := check_any x _ (hB0.ok hx)
  by_cases hs : mayS x.pl = true
  rotate_left
  · have hte : textS x.pl = [] := if_neg hs
    have he : errS x.pl = 80 := if_neg hs
    rw [he] at hk
    obtain ⟨⟨user, part, nodes, ⟨da, db, dc, dd⟩, wall, prio, array, retries, held, after⟩, so, n, cp⟩ := x
    replace hte := Lib.hid hte; replace hk := Lib.hid hk; replace hB0 := Lib.hid hB0; replace hx := Lib.hid hx; replace hs := Lib.hid hs; replace he := Lib.hid he; replace ht := Lib.hid ht
    go_enter Tryd.func27, Tryd.ntmps27
    go_wp2_with fail
    refine hk.out.mono ?_
    rintro e w1 ⟨rfl, hb⟩
    have hB1 := hB0.out.below hb
    replace hB1 := Lib.hid hB1; replace hb := Lib.hid hb
    go_wp2
    go_ret
    exact ⟨by rw [hte.out]; rfl, hB1.out.low⟩
  have he : errS x.pl = 0 := if_pos hs
  rw [he] at hk
  obtain ⟨q1, q2, q3, q4, q5, q6, q7, q8, q9⟩ := mayS_parts hs
  have qd := demOk_iff.1 q3
  have a1 := isName_le q1
  have a2 := isName_le q2
  have hv64 := v64_cap (capOk_right qd.1)
  have a3 := txtV_len hv64
  have a4 := listT_len q4
  have b5 := betw_iff.1 q5
  have b6 := betw_iff.1 q6
  have b7 := betw_iff.1 q7
  have b8 := betw_iff.1 q8
  have b9 := betw_iff.1 q9
  have d5 := itoa_bd (n := x.pl.nodes) (by omega) (by omega)
  have d6 := itoa_bd (n := x.pl.wall) (by omega) (by omega)
  have d7 := itoa_bd (n := x.pl.prio) (by omega) (by omega)
  have d8 := itoa_bd (n := x.pl.array) (by omega) (by omega)
  have d9 := itoa_bd (n := x.pl.retries) (by omega) (by omega)
  obtain ⟨V1, hV1⟩ : ∃ V, V = ofL (Lib.itoa x.pl.nodes) := ⟨_, rfl⟩
  obtain ⟨V2, hV2⟩ : ∃ V, V = ofL (txtV x.pl.dem) := ⟨_, rfl⟩
  obtain ⟨V3, hV3⟩ : ∃ V, V = ofL (Lib.itoa x.pl.wall) := ⟨_, rfl⟩
  obtain ⟨V4', hV4⟩ : ∃ V, V = ofL (Lib.itoa x.pl.prio) := ⟨_, rfl⟩
  obtain ⟨V5, hV5⟩ : ∃ V, V = ofL (Lib.itoa x.pl.array) := ⟨_, rfl⟩
  obtain ⟨V6, hV6⟩ : ∃ V, V = ofL (Lib.itoa x.pl.retries) := ⟨_, rfl⟩
  obtain ⟨V7, hV7⟩ : ∃ V, V = ofL (listT x.pl.after) := ⟨_, rfl⟩
  have s1 : V1.size ≤ 4096 := by rw [hV1, ofL_size]; omega
  have s2 : V2.size ≤ 4096 := by rw [hV2, ofL_size]; omega
  have s3 : V3.size ≤ 4096 := by rw [hV3, ofL_size]; omega
  have s4 : V4'.size ≤ 4096 := by rw [hV4, ofL_size]; omega
  have s5 : V5.size ≤ 4096 := by rw [hV5, ofL_size]; omega
  have s6 : V6.size ≤ 4096 := by rw [hV6, ofL_size]; omega
  have s7 : V7.size ≤ 4096 := by rw [hV7, ofL_size]; omega
  have k1 : ∀ W, Below w.heap.size w W → Calls Tryd.prog 74 #[.int .i64 x.pl.nodes] W fun e w' => e = .returned (.string V1) ∧ Below W.heap.size W w' := fun W h => by rw [hV1]; exact itoa_call _ (by omega) (by omega) W (ht.low h)
  have k2 : ∀ W, Below w.heap.size w W → Calls Tryd.prog 75 #[x.pl.dem.val] W fun e w' => e = .returned (.string V2) ∧ Below W.heap.size W w' := fun W h => by rw [hV2]; exact vtext_any _ hv64 W (ht.low h)
  have k3 : ∀ W, Below w.heap.size w W → Calls Tryd.prog 74 #[.int .i64 x.pl.wall] W fun e w' => e = .returned (.string V3) ∧ Below W.heap.size W w' := fun W h => by rw [hV3]; exact itoa_call _ (by omega) (by omega) W (ht.low h)
  have k4 : ∀ W, Below w.heap.size w W → Calls Tryd.prog 74 #[.int .i64 x.pl.prio] W fun e w' => e = .returned (.string V4') ∧ Below W.heap.size W w' := fun W h => by rw [hV4]; exact itoa_call _ (by omega) (by omega) W (ht.low h)
  have k5 : ∀ W, Below w.heap.size w W → Calls Tryd.prog 74 #[.int .i64 x.pl.array] W fun e w' => e = .returned (.string V5) ∧ Below W.heap.size W w' := fun W h => by rw [hV5]; exact itoa_call _ (by omega) (by omega) W (ht.low h)
  have k6 : ∀ W, Below w.heap.size w W → Calls Tryd.prog 74 #[.int .i64 x.pl.retries] W fun e w' => e = .returned (.string V6) ∧ Below W.heap.size W w' := fun W h => by rw [hV6]; exact itoa_call _ (by omega) (by omega) W (ht.low h)
  have k7 : ∀ W, Below w.heap.size w W → Calls Tryd.prog 76 #[.slice x.so x.n x.c] W fun e w' => e = .returned (.string V7) ∧ Below W.heap.size W w' := fun W h => by rw [hV7]; exact list_any _ _ _ _ W (hx.low h).after q4 (ht.low h)
  have hall : putAll x.pl = putX kAfter V7 { data := #[] } ((if x.pl.held = true then putX kHeld { data := #[49] } { data := #[] } else id) (putX kRetries V6 { data := #[48] } (putX kArray V5 { data := #[49] } (putX kPrio V4' { data := #[48] } (putX kWall V3 { data := #[] } (putX kDemand V2 { data := #[] } (putX kNodes V1 { data := #[] } (putX kPart x.pl.part { data := #[] } (putX kUser x.pl.user { data := #[] } []))))))))) := by
    rw [hV1, hV2, hV3, hV4, hV5, hV6, hV7]; rfl
  have textEnd : ∀ (vb m : Nat) (W : World), StW w x vb m (putAll x.pl) W → ∃ sv, W.heap[vb]? = some (.cells #[sv] 36 (0, 0)) ∧ True ∧ Calls Tryd.prog 77 #[sv, .string { data := #[32] }] W fun e w' => e = .returned (.string (ofL (textS x.pl))) ∧ Below W.heap.size W w' := fun vb m W h => by
    obtain ⟨sv, e1, e2⟩ := h.put.ex
    refine ⟨sv, e1, trivial, ?_⟩
    have hl := textS_len hs
    have hj := joinO_call e2 { data := #[32] } (by rw [putAll_eq hs, List.length_map]; have := pairs_len x.pl; omega) (by show (Lib.join ((putAll x.pl).map (·.data.toList)) [32]).length ≤ _; rw [putAll_join hs]; omega)
    rw [show (Lib.join ((putAll x.pl).map (·.data.toList)) ({ data := #[32] } : ByteArray).data.toList) = textS x.pl from putAll_join hs] at hj
    exact hj
  rw [hall] at textEnd
  obtain ⟨T, hT⟩ : ∃ T, T = ofL (textS x.pl) := ⟨_, rfl⟩
  rw [← hT] at textEnd ⊢
  clear hV1 hV2 hV3 hV4 hV5 hV6 hV7 q1 q2 q3 q4 q5 q6 q7 q8 q9 qd hv64 a3 a4 b5 b6 b7 b8 b9 d5 d6 d7 d8 d9 hs he hall hT
  obtain ⟨⟨user, part, nodes, ⟨da, db, dc, dd⟩, wall, prio, array, retries, held, after⟩, so, n, cp⟩ := x
  replace k1 := Lib.hid k1; replace k2 := Lib.hid k2; replace k3 := Lib.hid k3; replace k4 := Lib.hid k4; replace k5 := Lib.hid k5; replace k6 := Lib.hid k6; replace k7 := Lib.hid k7; replace hk := Lib.hid hk; replace hx := Lib.hid hx; replace hB0 := Lib.hid hB0; replace textEnd := Lib.hid textEnd; replace s1 := Lib.hid s1; replace s2 := Lib.hid s2; replace s3 := Lib.hid s3; replace s4 := Lib.hid s4; replace s5 := Lib.hid s5; replace s6 := Lib.hid s6; replace s7 := Lib.hid s7; replace a1 := Lib.hid a1; replace a2 := Lib.hid a2; replace ht := Lib.hid ht
  go_enter Tryd.func27, Tryd.ntmps27
  go_wp2_with fail
  refine hk.out.mono ?_
  rintro e w1 ⟨rfl, hb⟩
  have hB1 := hB0.out.below hb
  have hS0 : StW w ⟨⟨user, part, nodes, ⟨da, db, dc, dd⟩, wall, prio, array, retries, held, after⟩, so, n, cp⟩ w1.heap.size 0 [] (w1.alloc (.cells #[.slice none 0 0] 36 (0, 0))) :=
    ⟨hB1.low.alloc hB1.low.size _, blk_old _ hB1.box, ⟨_, blk_new _ _, own_empty _ _⟩, blk_lt hB1.box, by decide⟩
  have c0 : (w1.alloc (.cells #[.slice none 0 0] 36 (0, 0))).cell? ⟨w.heap.size, 0, none⟩ = some (.string user) := blk_cell hS0.box 0
  have c1 : (w1.alloc (.cells #[.slice none 0 0] 36 (0, 0))).cell? ⟨w.heap.size, 1, none⟩ = some (.string part) := blk_cell hS0.box 1
  have c2 : (w1.alloc (.cells #[.slice none 0 0] 36 (0, 0))).cell? ⟨w.heap.size, 2, none⟩ = some (.int .i64 nodes) := blk_cell hS0.box 2
  have c3 : (w1.alloc (.cells #[.slice none 0 0] 36 (0, 0))).cell? ⟨w.heap.size, 3, none⟩ = some (.int .i64 da) := blk_cell hS0.box 3
  have c4 : (w1.alloc (.cells #[.slice none 0 0] 36 (0, 0))).cell? ⟨w.heap.size, 4, none⟩ = some (.int .i64 db) := blk_cell hS0.box 4
  have c5 : (w1.alloc (.cells #[.slice none 0 0] 36 (0, 0))).cell? ⟨w.heap.size, 5, none⟩ = some (.int .i64 dc) := blk_cell hS0.box 5
  have c6 : (w1.alloc (.cells #[.slice none 0 0] 36 (0, 0))).cell? ⟨w.heap.size, 6, none⟩ = some (.int .i64 dd) := blk_cell hS0.box 6
  have c7 : (w1.alloc (.cells #[.slice none 0 0] 36 (0, 0))).cell? ⟨w.heap.size, 7, none⟩ = some (.int .i64 wall) := blk_cell hS0.box 7
  have c8 : (w1.alloc (.cells #[.slice none 0 0] 36 (0, 0))).cell? ⟨w.heap.size, 8, none⟩ = some (.int .i64 prio) := blk_cell hS0.box 8
  have c9 : (w1.alloc (.cells #[.slice none 0 0] 36 (0, 0))).cell? ⟨w.heap.size, 9, none⟩ = some (.int .i64 array) := blk_cell hS0.box 9
  have c10 : (w1.alloc (.cells #[.slice none 0 0] 36 (0, 0))).cell? ⟨w.heap.size, 10, none⟩ = some (.int .i64 retries) := blk_cell hS0.box 10
  have c11 : (w1.alloc (.cells #[.slice none 0 0] 36 (0, 0))).cell? ⟨w.heap.size, 11, none⟩ = some (.bool held) := blk_cell hS0.box 11
  have c12 : (w1.alloc (.cells #[.slice none 0 0] 36 (0, 0))).cell? ⟨w.heap.size, 12, none⟩ = some (.slice so n cp) := blk_cell hS0.box 12
  replace hB1 := Lib.hid hB1; replace hb := Lib.hid hb; replace hS0 := Lib.hid hS0
  go_wp2_with fail
  refine (putw_any _ _ kUser user { data := #[] } _ (hS0).out.put (Nat.le_trans (hS0).out.few (by decide)) (by decide) (by have := a1.out; show user.size ≤ 4096; omega)).mono ?_
  rintro e w2 ⟨rfl, hp, hb⟩
  have hS1 := (hS0).out.step hp hb
  clear c0 c1 c2 c3 c4 c5 c6 c7 c8 c9 c10 c11 c12
  have c0 : w2.cell? ⟨w.heap.size, 0, none⟩ = some (.string user) := blk_cell (hS1).box 0
  have c1 : w2.cell? ⟨w.heap.size, 1, none⟩ = some (.string part) := blk_cell (hS1).box 1
  have c2 : w2.cell? ⟨w.heap.size, 2, none⟩ = some (.int .i64 nodes) := blk_cell (hS1).box 2
  have c3 : w2.cell? ⟨w.heap.size, 3, none⟩ = some (.int .i64 da) := blk_cell (hS1).box 3
  have c4 : w2.cell? ⟨w.heap.size, 4, none⟩ = some (.int .i64 db) := blk_cell (hS1).box 4
  have c5 : w2.cell? ⟨w.heap.size, 5, none⟩ = some (.int .i64 dc) := blk_cell (hS1).box 5
  have c6 : w2.cell? ⟨w.heap.size, 6, none⟩ = some (.int .i64 dd) := blk_cell (hS1).box 6
  have c7 : w2.cell? ⟨w.heap.size, 7, none⟩ = some (.int .i64 wall) := blk_cell (hS1).box 7
  have c8 : w2.cell? ⟨w.heap.size, 8, none⟩ = some (.int .i64 prio) := blk_cell (hS1).box 8
  have c9 : w2.cell? ⟨w.heap.size, 9, none⟩ = some (.int .i64 array) := blk_cell (hS1).box 9
  have c10 : w2.cell? ⟨w.heap.size, 10, none⟩ = some (.int .i64 retries) := blk_cell (hS1).box 10
  have c11 : w2.cell? ⟨w.heap.size, 11, none⟩ = some (.bool held) := blk_cell (hS1).box 11
  have c12 : w2.cell? ⟨w.heap.size, 12, none⟩ = some (.slice so n cp) := blk_cell (hS1).box 12
  replace hS1 := Lib.hid hS1; replace hp := Lib.hid hp; replace hb := Lib.hid hb
  clear hb hp
  go_wp2_with fail
  refine (putw_any _ _ kPart part { data := #[] } _ (hS1).out.put (Nat.le_trans (hS1).out.few (by decide)) (by decide) (by have := a2.out; show part.size ≤ 4096; omega)).mono ?_
  rintro e w3 ⟨rfl, hp, hb⟩
  have hS2 := (hS1).out.step hp hb
  clear c0 c1 c2 c3 c4 c5 c6 c7 c8 c9 c10 c11 c12
  have c0 : w3.cell? ⟨w.heap.size, 0, none⟩ = some (.string user) := blk_cell (hS2).box 0
  have c1 : w3.cell? ⟨w.heap.size, 1, none⟩ = some (.string part) := blk_cell (hS2).box 1
  have c2 : w3.cell? ⟨w.heap.size, 2, none⟩ = some (.int .i64 nodes) := blk_cell (hS2).box 2
  have c3 : w3.cell? ⟨w.heap.size, 3, none⟩ = some (.int .i64 da) := blk_cell (hS2).box 3
  have c4 : w3.cell? ⟨w.heap.size, 4, none⟩ = some (.int .i64 db) := blk_cell (hS2).box 4
  have c5 : w3.cell? ⟨w.heap.size, 5, none⟩ = some (.int .i64 dc) := blk_cell (hS2).box 5
  have c6 : w3.cell? ⟨w.heap.size, 6, none⟩ = some (.int .i64 dd) := blk_cell (hS2).box 6
  have c7 : w3.cell? ⟨w.heap.size, 7, none⟩ = some (.int .i64 wall) := blk_cell (hS2).box 7
  have c8 : w3.cell? ⟨w.heap.size, 8, none⟩ = some (.int .i64 prio) := blk_cell (hS2).box 8
  have c9 : w3.cell? ⟨w.heap.size, 9, none⟩ = some (.int .i64 array) := blk_cell (hS2).box 9
  have c10 : w3.cell? ⟨w.heap.size, 10, none⟩ = some (.int .i64 retries) := blk_cell (hS2).box 10
  have c11 : w3.cell? ⟨w.heap.size, 11, none⟩ = some (.bool held) := blk_cell (hS2).box 11
  have c12 : w3.cell? ⟨w.heap.size, 12, none⟩ = some (.slice so n cp) := blk_cell (hS2).box 12
  replace hS2 := Lib.hid hS2; replace hp := Lib.hid hp; replace hb := Lib.hid hb
  clear hb hp
  go_wp2_with fail
  refine (k1.out _ hS2.out.low).mono ?_
  rintro e w4 ⟨rfl, hb⟩
  have hS3 := (hS2).out.on hb
  clear c0 c1 c2 c3 c4 c5 c6 c7 c8 c9 c10 c11 c12
  have c0 : w4.cell? ⟨w.heap.size, 0, none⟩ = some (.string user) := blk_cell (hS3).box 0
  have c1 : w4.cell? ⟨w.heap.size, 1, none⟩ = some (.string part) := blk_cell (hS3).box 1
  have c2 : w4.cell? ⟨w.heap.size, 2, none⟩ = some (.int .i64 nodes) := blk_cell (hS3).box 2
  have c3 : w4.cell? ⟨w.heap.size, 3, none⟩ = some (.int .i64 da) := blk_cell (hS3).box 3
  have c4 : w4.cell? ⟨w.heap.size, 4, none⟩ = some (.int .i64 db) := blk_cell (hS3).box 4
  have c5 : w4.cell? ⟨w.heap.size, 5, none⟩ = some (.int .i64 dc) := blk_cell (hS3).box 5
  have c6 : w4.cell? ⟨w.heap.size, 6, none⟩ = some (.int .i64 dd) := blk_cell (hS3).box 6
  have c7 : w4.cell? ⟨w.heap.size, 7, none⟩ = some (.int .i64 wall) := blk_cell (hS3).box 7
  have c8 : w4.cell? ⟨w.heap.size, 8, none⟩ = some (.int .i64 prio) := blk_cell (hS3).box 8
  have c9 : w4.cell? ⟨w.heap.size, 9, none⟩ = some (.int .i64 array) := blk_cell (hS3).box 9
  have c10 : w4.cell? ⟨w.heap.size, 10, none⟩ = some (.int .i64 retries) := blk_cell (hS3).box 10
  have c11 : w4.cell? ⟨w.heap.size, 11, none⟩ = some (.bool held) := blk_cell (hS3).box 11
  have c12 : w4.cell? ⟨w.heap.size, 12, none⟩ = some (.slice so n cp) := blk_cell (hS3).box 12
  replace hS3 := Lib.hid hS3; replace hb := Lib.hid hb
  clear hb
  go_wp2_with fail
  refine (putw_any _ _ kNodes V1 { data := #[] } _ (hS3).out.put (Nat.le_trans (hS3).out.few (by decide)) (by decide) s1.out).mono ?_
  rintro e w5 ⟨rfl, hp, hb⟩
  have hS4 := (hS3).out.step hp hb
  clear c0 c1 c2 c3 c4 c5 c6 c7 c8 c9 c10 c11 c12
  have c0 : w5.cell? ⟨w.heap.size, 0, none⟩ = some (.string user) := blk_cell (hS4).box 0
  have c1 : w5.cell? ⟨w.heap.size, 1, none⟩ = some (.string part) := blk_cell (hS4).box 1
  have c2 : w5.cell? ⟨w.heap.size, 2, none⟩ = some (.int .i64 nodes) := blk_cell (hS4).box 2
  have c3 : w5.cell? ⟨w.heap.size, 3, none⟩ = some (.int .i64 da) := blk_cell (hS4).box 3
  have c4 : w5.cell? ⟨w.heap.size, 4, none⟩ = some (.int .i64 db) := blk_cell (hS4).box 4
  have c5 : w5.cell? ⟨w.heap.size, 5, none⟩ = some (.int .i64 dc) := blk_cell (hS4).box 5
  have c6 : w5.cell? ⟨w.heap.size, 6, none⟩ = some (.int .i64 dd) := blk_cell (hS4).box 6
  have c7 : w5.cell? ⟨w.heap.size, 7, none⟩ = some (.int .i64 wall) := blk_cell (hS4).box 7
  have c8 : w5.cell? ⟨w.heap.size, 8, none⟩ = some (.int .i64 prio) := blk_cell (hS4).box 8
  have c9 : w5.cell? ⟨w.heap.size, 9, none⟩ = some (.int .i64 array) := blk_cell (hS4).box 9
  have c10 : w5.cell? ⟨w.heap.size, 10, none⟩ = some (.int .i64 retries) := blk_cell (hS4).box 10
  have c11 : w5.cell? ⟨w.heap.size, 11, none⟩ = some (.bool held) := blk_cell (hS4).box 11
  have c12 : w5.cell? ⟨w.heap.size, 12, none⟩ = some (.slice so n cp) := blk_cell (hS4).box 12
  replace hS4 := Lib.hid hS4; replace hp := Lib.hid hp; replace hb := Lib.hid hb
  clear hb hp
  go_wp2_with fail
  refine (k2.out _ hS4.out.low).mono ?_
  rintro e w6 ⟨rfl, hb⟩
  have hS5 := (hS4).out.on hb
  clear c0 c1 c2 c3 c4 c5 c6 c7 c8 c9 c10 c11 c12
  have c0 : w6.cell? ⟨w.heap.size, 0, none⟩ = some (.string user) := blk_cell (hS5).box 0
  have c1 : w6.cell? ⟨w.heap.size, 1, none⟩ = some (.string part) := blk_cell (hS5).box 1
  have c2 : w6.cell? ⟨w.heap.size, 2, none⟩ = some (.int .i64 nodes) := blk_cell (hS5).box 2
  have c3 : w6.cell? ⟨w.heap.size, 3, none⟩ = some (.int .i64 da) := blk_cell (hS5).box 3
  have c4 : w6.cell? ⟨w.heap.size, 4, none⟩ = some (.int .i64 db) := blk_cell (hS5).box 4
  have c5 : w6.cell? ⟨w.heap.size, 5, none⟩ = some (.int .i64 dc) := blk_cell (hS5).box 5
  have c6 : w6.cell? ⟨w.heap.size, 6, none⟩ = some (.int .i64 dd) := blk_cell (hS5).box 6
  have c7 : w6.cell? ⟨w.heap.size, 7, none⟩ = some (.int .i64 wall) := blk_cell (hS5).box 7
  have c8 : w6.cell? ⟨w.heap.size, 8, none⟩ = some (.int .i64 prio) := blk_cell (hS5).box 8
  have c9 : w6.cell? ⟨w.heap.size, 9, none⟩ = some (.int .i64 array) := blk_cell (hS5).box 9
  have c10 : w6.cell? ⟨w.heap.size, 10, none⟩ = some (.int .i64 retries) := blk_cell (hS5).box 10
  have c11 : w6.cell? ⟨w.heap.size, 11, none⟩ = some (.bool held) := blk_cell (hS5).box 11
  have c12 : w6.cell? ⟨w.heap.size, 12, none⟩ = some (.slice so n cp) := blk_cell (hS5).box 12
  replace hS5 := Lib.hid hS5; replace hb := Lib.hid hb
  clear hb
  go_wp2_with fail
  refine (putw_any _ _ kDemand V2 { data := #[] } _ (hS5).out.put (Nat.le_trans (hS5).out.few (by decide)) (by decide) s2.out).mono ?_
  rintro e w7 ⟨rfl, hp, hb⟩
  have hS6 := (hS5).out.step hp hb
  clear c0 c1 c2 c3 c4 c5 c6 c7 c8 c9 c10 c11 c12
  have c0 : w7.cell? ⟨w.heap.size, 0, none⟩ = some (.string user) := blk_cell (hS6).box 0
  have c1 : w7.cell? ⟨w.heap.size, 1, none⟩ = some (.string part) := blk_cell (hS6).box 1
  have c2 : w7.cell? ⟨w.heap.size, 2, none⟩ = some (.int .i64 nodes) := blk_cell (hS6).box 2
  have c3 : w7.cell? ⟨w.heap.size, 3, none⟩ = some (.int .i64 da) := blk_cell (hS6).box 3
  have c4 : w7.cell? ⟨w.heap.size, 4, none⟩ = some (.int .i64 db) := blk_cell (hS6).box 4
  have c5 : w7.cell? ⟨w.heap.size, 5, none⟩ = some (.int .i64 dc) := blk_cell (hS6).box 5
  have c6 : w7.cell? ⟨w.heap.size, 6, none⟩ = some (.int .i64 dd) := blk_cell (hS6).box 6
  have c7 : w7.cell? ⟨w.heap.size, 7, none⟩ = some (.int .i64 wall) := blk_cell (hS6).box 7
  have c8 : w7.cell? ⟨w.heap.size, 8, none⟩ = some (.int .i64 prio) := blk_cell (hS6).box 8
  have c9 : w7.cell? ⟨w.heap.size, 9, none⟩ = some (.int .i64 array) := blk_cell (hS6).box 9
  have c10 : w7.cell? ⟨w.heap.size, 10, none⟩ = some (.int .i64 retries) := blk_cell (hS6).box 10
  have c11 : w7.cell? ⟨w.heap.size, 11, none⟩ = some (.bool held) := blk_cell (hS6).box 11
  have c12 : w7.cell? ⟨w.heap.size, 12, none⟩ = some (.slice so n cp) := blk_cell (hS6).box 12
  replace hS6 := Lib.hid hS6; replace hp := Lib.hid hp; replace hb := Lib.hid hb
  clear hb hp
  go_wp2_with fail
  refine (k3.out _ hS6.out.low).mono ?_
  rintro e w8 ⟨rfl, hb⟩
  have hS7 := (hS6).out.on hb
  clear c0 c1 c2 c3 c4 c5 c6 c7 c8 c9 c10 c11 c12
  have c0 : w8.cell? ⟨w.heap.size, 0, none⟩ = some (.string user) := blk_cell (hS7).box 0
  have c1 : w8.cell? ⟨w.heap.size, 1, none⟩ = some (.string part) := blk_cell (hS7).box 1
  have c2 : w8.cell? ⟨w.heap.size, 2, none⟩ = some (.int .i64 nodes) := blk_cell (hS7).box 2
  have c3 : w8.cell? ⟨w.heap.size, 3, none⟩ = some (.int .i64 da) := blk_cell (hS7).box 3
  have c4 : w8.cell? ⟨w.heap.size, 4, none⟩ = some (.int .i64 db) := blk_cell (hS7).box 4
  have c5 : w8.cell? ⟨w.heap.size, 5, none⟩ = some (.int .i64 dc) := blk_cell (hS7).box 5
  have c6 : w8.cell? ⟨w.heap.size, 6, none⟩ = some (.int .i64 dd) := blk_cell (hS7).box 6
  have c7 : w8.cell? ⟨w.heap.size, 7, none⟩ = some (.int .i64 wall) := blk_cell (hS7).box 7
  have c8 : w8.cell? ⟨w.heap.size, 8, none⟩ = some (.int .i64 prio) := blk_cell (hS7).box 8
  have c9 : w8.cell? ⟨w.heap.size, 9, none⟩ = some (.int .i64 array) := blk_cell (hS7).box 9
  have c10 : w8.cell? ⟨w.heap.size, 10, none⟩ = some (.int .i64 retries) := blk_cell (hS7).box 10
  have c11 : w8.cell? ⟨w.heap.size, 11, none⟩ = some (.bool held) := blk_cell (hS7).box 11
  have c12 : w8.cell? ⟨w.heap.size, 12, none⟩ = some (.slice so n cp) := blk_cell (hS7).box 12
  replace hS7 := Lib.hid hS7; replace hb := Lib.hid hb
  clear hb
  go_wp2_with fail
  refine (putw_any _ _ kWall V3 { data := #[] } _ (hS7).out.put (Nat.le_trans (hS7).out.few (by decide)) (by decide) s3.out).mono ?_
  rintro e w9 ⟨rfl, hp, hb⟩
  have hS8 := (hS7).out.step hp hb
  clear c0 c1 c2 c3 c4 c5 c6 c7 c8 c9 c10 c11 c12
  have c0 : w9.cell? ⟨w.heap.size, 0, none⟩ = some (.string user) := blk_cell (hS8).box 0
  have c1 : w9.cell? ⟨w.heap.size, 1, none⟩ = some (.string part) := blk_cell (hS8).box 1
  have c2 : w9.cell? ⟨w.heap.size, 2, none⟩ = some (.int .i64 nodes) := blk_cell (hS8).box 2
  have c3 : w9.cell? ⟨w.heap.size, 3, none⟩ = some (.int .i64 da) := blk_cell (hS8).box 3
  have c4 : w9.cell? ⟨w.heap.size, 4, none⟩ = some (.int .i64 db) := blk_cell (hS8).box 4
  have c5 : w9.cell? ⟨w.heap.size, 5, none⟩ = some (.int .i64 dc) := blk_cell (hS8).box 5
  have c6 : w9.cell? ⟨w.heap.size, 6, none⟩ = some (.int .i64 dd) := blk_cell (hS8).box 6
  have c7 : w9.cell? ⟨w.heap.size, 7, none⟩ = some (.int .i64 wall) := blk_cell (hS8).box 7
  have c8 : w9.cell? ⟨w.heap.size, 8, none⟩ = some (.int .i64 prio) := blk_cell (hS8).box 8
  have c9 : w9.cell? ⟨w.heap.size, 9, none⟩ = some (.int .i64 array) := blk_cell (hS8).box 9
  have c10 : w9.cell? ⟨w.heap.size, 10, none⟩ = some (.int .i64 retries) := blk_cell (hS8).box 10
  have c11 : w9.cell? ⟨w.heap.size, 11, none⟩ = some (.bool held) := blk_cell (hS8).box 11
  have c12 : w9.cell? ⟨w.heap.size, 12, none⟩ = some (.slice so n cp) := blk_cell (hS8).box 12
  replace hS8 := Lib.hid hS8; replace hp := Lib.hid hp; replace hb := Lib.hid hb
  clear hb hp
  go_wp2_with fail
  refine (k4.out _ hS8.out.low).mono ?_
  rintro e w10 ⟨rfl, hb⟩
  have hS9 := (hS8).out.on hb
  clear c0 c1 c2 c3 c4 c5 c6 c7 c8 c9 c10 c11 c12
  have c0 : w10.cell? ⟨w.heap.size, 0, none⟩ = some (.string user) := blk_cell (hS9).box 0
  have c1 : w10.cell? ⟨w.heap.size, 1, none⟩ = some (.string part) := blk_cell (hS9).box 1
  have c2 : w10.cell? ⟨w.heap.size, 2, none⟩ = some (.int .i64 nodes) := blk_cell (hS9).box 2
  have c3 : w10.cell? ⟨w.heap.size, 3, none⟩ = some (.int .i64 da) := blk_cell (hS9).box 3
  have c4 : w10.cell? ⟨w.heap.size, 4, none⟩ = some (.int .i64 db) := blk_cell (hS9).box 4
  have c5 : w10.cell? ⟨w.heap.size, 5, none⟩ = some (.int .i64 dc) := blk_cell (hS9).box 5
  have c6 : w10.cell? ⟨w.heap.size, 6, none⟩ = some (.int .i64 dd) := blk_cell (hS9).box 6
  have c7 : w10.cell? ⟨w.heap.size, 7, none⟩ = some (.int .i64 wall) := blk_cell (hS9).box 7
  have c8 : w10.cell? ⟨w.heap.size, 8, none⟩ = some (.int .i64 prio) := blk_cell (hS9).box 8
  have c9 : w10.cell? ⟨w.heap.size, 9, none⟩ = some (.int .i64 array) := blk_cell (hS9).box 9
  have c10 : w10.cell? ⟨w.heap.size, 10, none⟩ = some (.int .i64 retries) := blk_cell (hS9).box 10
  have c11 : w10.cell? ⟨w.heap.size, 11, none⟩ = some (.bool held) := blk_cell (hS9).box 11
  have c12 : w10.cell? ⟨w.heap.size, 12, none⟩ = some (.slice so n cp) := blk_cell (hS9).box 12
  replace hS9 := Lib.hid hS9; replace hb := Lib.hid hb
  clear hb
  go_wp2_with fail
  refine (putw_any _ _ kPrio V4' { data := #[48] } _ (hS9).out.put (Nat.le_trans (hS9).out.few (by decide)) (by decide) s4.out).mono ?_
  rintro e w11 ⟨rfl, hp, hb⟩
  have hS10 := (hS9).out.step hp hb
  clear c0 c1 c2 c3 c4 c5 c6 c7 c8 c9 c10 c11 c12
  have c0 : w11.cell? ⟨w.heap.size, 0, none⟩ = some (.string user) := blk_cell (hS10).box 0
  have c1 : w11.cell? ⟨w.heap.size, 1, none⟩ = some (.string part) := blk_cell (hS10).box 1
  have c2 : w11.cell? ⟨w.heap.size, 2, none⟩ = some (.int .i64 nodes) := blk_cell (hS10).box 2
  have c3 : w11.cell? ⟨w.heap.size, 3, none⟩ = some (.int .i64 da) := blk_cell (hS10).box 3
  have c4 : w11.cell? ⟨w.heap.size, 4, none⟩ = some (.int .i64 db) := blk_cell (hS10).box 4
  have c5 : w11.cell? ⟨w.heap.size, 5, none⟩ = some (.int .i64 dc) := blk_cell (hS10).box 5
  have c6 : w11.cell? ⟨w.heap.size, 6, none⟩ = some (.int .i64 dd) := blk_cell (hS10).box 6
  have c7 : w11.cell? ⟨w.heap.size, 7, none⟩ = some (.int .i64 wall) := blk_cell (hS10).box 7
  have c8 : w11.cell? ⟨w.heap.size, 8, none⟩ = some (.int .i64 prio) := blk_cell (hS10).box 8
  have c9 : w11.cell? ⟨w.heap.size, 9, none⟩ = some (.int .i64 array) := blk_cell (hS10).box 9
  have c10 : w11.cell? ⟨w.heap.size, 10, none⟩ = some (.int .i64 retries) := blk_cell (hS10).box 10
  have c11 : w11.cell? ⟨w.heap.size, 11, none⟩ = some (.bool held) := blk_cell (hS10).box 11
  have c12 : w11.cell? ⟨w.heap.size, 12, none⟩ = some (.slice so n cp) := blk_cell (hS10).box 12
  replace hS10 := Lib.hid hS10; replace hp := Lib.hid hp; replace hb := Lib.hid hb
  clear hb hp
  go_wp2_with fail
  refine (k5.out _ hS10.out.low).mono ?_
  rintro e w12 ⟨rfl, hb⟩
  have hS11 := (hS10).out.on hb
  clear c0 c1 c2 c3 c4 c5 c6 c7 c8 c9 c10 c11 c12
  have c0 : w12.cell? ⟨w.heap.size, 0, none⟩ = some (.string user) := blk_cell (hS11).box 0
  have c1 : w12.cell? ⟨w.heap.size, 1, none⟩ = some (.string part) := blk_cell (hS11).box 1
  have c2 : w12.cell? ⟨w.heap.size, 2, none⟩ = some (.int .i64 nodes) := blk_cell (hS11).box 2
  have c3 : w12.cell? ⟨w.heap.size, 3, none⟩ = some (.int .i64 da) := blk_cell (hS11).box 3
  have c4 : w12.cell? ⟨w.heap.size, 4, none⟩ = some (.int .i64 db) := blk_cell (hS11).box 4
  have c5 : w12.cell? ⟨w.heap.size, 5, none⟩ = some (.int .i64 dc) := blk_cell (hS11).box 5
  have c6 : w12.cell? ⟨w.heap.size, 6, none⟩ = some (.int .i64 dd) := blk_cell (hS11).box 6
  have c7 : w12.cell? ⟨w.heap.size, 7, none⟩ = some (.int .i64 wall) := blk_cell (hS11).box 7
  have c8 : w12.cell? ⟨w.heap.size, 8, none⟩ = some (.int .i64 prio) := blk_cell (hS11).box 8
  have c9 : w12.cell? ⟨w.heap.size, 9, none⟩ = some (.int .i64 array) := blk_cell (hS11).box 9
  have c10 : w12.cell? ⟨w.heap.size, 10, none⟩ = some (.int .i64 retries) := blk_cell (hS11).box 10
  have c11 : w12.cell? ⟨w.heap.size, 11, none⟩ = some (.bool held) := blk_cell (hS11).box 11
  have c12 : w12.cell? ⟨w.heap.size, 12, none⟩ = some (.slice so n cp) := blk_cell (hS11).box 12
  replace hS11 := Lib.hid hS11; replace hb := Lib.hid hb
  clear hb
  go_wp2_with fail
  refine (putw_any _ _ kArray V5 { data := #[49] } _ (hS11).out.put (Nat.le_trans (hS11).out.few (by decide)) (by decide) s5.out).mono ?_
  rintro e w13 ⟨rfl, hp, hb⟩
  have hS12 := (hS11).out.step hp hb
  clear c0 c1 c2 c3 c4 c5 c6 c7 c8 c9 c10 c11 c12
  have c0 : w13.cell? ⟨w.heap.size, 0, none⟩ = some (.string user) := blk_cell (hS12).box 0
  have c1 : w13.cell? ⟨w.heap.size, 1, none⟩ = some (.string part) := blk_cell (hS12).box 1
  have c2 : w13.cell? ⟨w.heap.size, 2, none⟩ = some (.int .i64 nodes) := blk_cell (hS12).box 2
  have c3 : w13.cell? ⟨w.heap.size, 3, none⟩ = some (.int .i64 da) := blk_cell (hS12).box 3
  have c4 : w13.cell? ⟨w.heap.size, 4, none⟩ = some (.int .i64 db) := blk_cell (hS12).box 4
  have c5 : w13.cell? ⟨w.heap.size, 5, none⟩ = some (.int .i64 dc) := blk_cell (hS12).box 5
  have c6 : w13.cell? ⟨w.heap.size, 6, none⟩ = some (.int .i64 dd) := blk_cell (hS12).box 6
  have c7 : w13.cell? ⟨w.heap.size, 7, none⟩ = some (.int .i64 wall) := blk_cell (hS12).box 7
  have c8 : w13.cell? ⟨w.heap.size, 8, none⟩ = some (.int .i64 prio) := blk_cell (hS12).box 8
  have c9 : w13.cell? ⟨w.heap.size, 9, none⟩ = some (.int .i64 array) := blk_cell (hS12).box 9
  have c10 : w13.cell? ⟨w.heap.size, 10, none⟩ = some (.int .i64 retries) := blk_cell (hS12).box 10
  have c11 : w13.cell? ⟨w.heap.size, 11, none⟩ = some (.bool held) := blk_cell (hS12).box 11
  have c12 : w13.cell? ⟨w.heap.size, 12, none⟩ = some (.slice so n cp) := blk_cell (hS12).box 12
  replace hS12 := Lib.hid hS12; replace hp := Lib.hid hp; replace hb := Lib.hid hb
  clear hb hp
  go_wp2_with fail
  refine (k6.out _ hS12.out.low).mono ?_
  rintro e w14 ⟨rfl, hb⟩
  have hS13 := (hS12).out.on hb
  clear c0 c1 c2 c3 c4 c5 c6 c7 c8 c9 c10 c11 c12
  have c0 : w14.cell? ⟨w.heap.size, 0, none⟩ = some (.string user) := blk_cell (hS13).box 0
  have c1 : w14.cell? ⟨w.heap.size, 1, none⟩ = some (.string part) := blk_cell (hS13).box 1
  have c2 : w14.cell? ⟨w.heap.size, 2, none⟩ = some (.int .i64 nodes) := blk_cell (hS13).box 2
  have c3 : w14.cell? ⟨w.heap.size, 3, none⟩ = some (.int .i64 da) := blk_cell (hS13).box 3
  have c4 : w14.cell? ⟨w.heap.size, 4, none⟩ = some (.int .i64 db) := blk_cell (hS13).box 4
  have c5 : w14.cell? ⟨w.heap.size, 5, none⟩ = some (.int .i64 dc) := blk_cell (hS13).box 5
  have c6 : w14.cell? ⟨w.heap.size, 6, none⟩ = some (.int .i64 dd) := blk_cell (hS13).box 6
  have c7 : w14.cell? ⟨w.heap.size, 7, none⟩ = some (.int .i64 wall) := blk_cell (hS13).box 7
  have c8 : w14.cell? ⟨w.heap.size, 8, none⟩ = some (.int .i64 prio) := blk_cell (hS13).box 8
  have c9 : w14.cell? ⟨w.heap.size, 9, none⟩ = some (.int .i64 array) := blk_cell (hS13).box 9
  have c10 : w14.cell? ⟨w.heap.size, 10, none⟩ = some (.int .i64 retries) := blk_cell (hS13).box 10
  have c11 : w14.cell? ⟨w.heap.size, 11, none⟩ = some (.bool held) := blk_cell (hS13).box 11
  have c12 : w14.cell? ⟨w.heap.size, 12, none⟩ = some (.slice so n cp) := blk_cell (hS13).box 12
  replace hS13 := Lib.hid hS13; replace hb := Lib.hid hb
  clear hb
  go_wp2_with fail
  refine (putw_any _ _ kRetries V6 { data := #[48] } _ (hS13).out.put (Nat.le_trans (hS13).out.few (by decide)) (by decide) s6.out).mono ?_
  rintro e w15 ⟨rfl, hp, hb⟩
  have hS14 := (hS13).out.step hp hb
  clear c0 c1 c2 c3 c4 c5 c6 c7 c8 c9 c10 c11 c12
  have c0 : w15.cell? ⟨w.heap.size, 0, none⟩ = some (.string user) := blk_cell (hS14).box 0
  have c1 : w15.cell? ⟨w.heap.size, 1, none⟩ = some (.string part) := blk_cell (hS14).box 1
  have c2 : w15.cell? ⟨w.heap.size, 2, none⟩ = some (.int .i64 nodes) := blk_cell (hS14).box 2
  have c3 : w15.cell? ⟨w.heap.size, 3, none⟩ = some (.int .i64 da) := blk_cell (hS14).box 3
  have c4 : w15.cell? ⟨w.heap.size, 4, none⟩ = some (.int .i64 db) := blk_cell (hS14).box 4
  have c5 : w15.cell? ⟨w.heap.size, 5, none⟩ = some (.int .i64 dc) := blk_cell (hS14).box 5
  have c6 : w15.cell? ⟨w.heap.size, 6, none⟩ = some (.int .i64 dd) := blk_cell (hS14).box 6
  have c7 : w15.cell? ⟨w.heap.size, 7, none⟩ = some (.int .i64 wall) := blk_cell (hS14).box 7
  have c8 : w15.cell? ⟨w.heap.size, 8, none⟩ = some (.int .i64 prio) := blk_cell (hS14).box 8
  have c9 : w15.cell? ⟨w.heap.size, 9, none⟩ = some (.int .i64 array) := blk_cell (hS14).box 9
  have c10 : w15.cell? ⟨w.heap.size, 10, none⟩ = some (.int .i64 retries) := blk_cell (hS14).box 10
  have c11 : w15.cell? ⟨w.heap.size, 11, none⟩ = some (.bool held) := blk_cell (hS14).box 11
  have c12 : w15.cell? ⟨w.heap.size, 12, none⟩ = some (.slice so n cp) := blk_cell (hS14).box 12
  replace hS14 := Lib.hid hS14; replace hp := Lib.hid hp; replace hb := Lib.hid hb
  clear hb hp
  cases held with
  | false =>
    go_wp2_with fail
    refine (k7.out _ hS14.out.low).mono ?_
    rintro e w17 ⟨rfl, hb⟩
    have hS16 := (hS14).out.on hb
    clear c0 c1 c2 c3 c4 c5 c6 c7 c8 c9 c10 c12
    have c0 : w17.cell? ⟨w.heap.size, 0, none⟩ = some (.string user) := blk_cell (hS16).box 0
    have c1 : w17.cell? ⟨w.heap.size, 1, none⟩ = some (.string part) := blk_cell (hS16).box 1
    have c2 : w17.cell? ⟨w.heap.size, 2, none⟩ = some (.int .i64 nodes) := blk_cell (hS16).box 2
    have c3 : w17.cell? ⟨w.heap.size, 3, none⟩ = some (.int .i64 da) := blk_cell (hS16).box 3
    have c4 : w17.cell? ⟨w.heap.size, 4, none⟩ = some (.int .i64 db) := blk_cell (hS16).box 4
    have c5 : w17.cell? ⟨w.heap.size, 5, none⟩ = some (.int .i64 dc) := blk_cell (hS16).box 5
    have c6 : w17.cell? ⟨w.heap.size, 6, none⟩ = some (.int .i64 dd) := blk_cell (hS16).box 6
    have c7 : w17.cell? ⟨w.heap.size, 7, none⟩ = some (.int .i64 wall) := blk_cell (hS16).box 7
    have c8 : w17.cell? ⟨w.heap.size, 8, none⟩ = some (.int .i64 prio) := blk_cell (hS16).box 8
    have c9 : w17.cell? ⟨w.heap.size, 9, none⟩ = some (.int .i64 array) := blk_cell (hS16).box 9
    have c10 : w17.cell? ⟨w.heap.size, 10, none⟩ = some (.int .i64 retries) := blk_cell (hS16).box 10
    have c12 : w17.cell? ⟨w.heap.size, 12, none⟩ = some (.slice so n cp) := blk_cell (hS16).box 12
    replace hS16 := Lib.hid hS16; replace hb := Lib.hid hb
    clear hb
    go_wp2_with fail
    refine (putw_any _ _ kAfter V7 { data := #[] } _ (hS16).out.put (Nat.le_trans (hS16).out.few (by decide)) (by decide) s7.out).mono ?_
    rintro e w18 ⟨rfl, hp, hb⟩
    have hS17 := (hS16).out.step hp hb
    clear c0 c1 c2 c3 c4 c5 c6 c7 c8 c9 c10 c12
    have c0 : w18.cell? ⟨w.heap.size, 0, none⟩ = some (.string user) := blk_cell (hS17).box 0
    have c1 : w18.cell? ⟨w.heap.size, 1, none⟩ = some (.string part) := blk_cell (hS17).box 1
    have c2 : w18.cell? ⟨w.heap.size, 2, none⟩ = some (.int .i64 nodes) := blk_cell (hS17).box 2
    have c3 : w18.cell? ⟨w.heap.size, 3, none⟩ = some (.int .i64 da) := blk_cell (hS17).box 3
    have c4 : w18.cell? ⟨w.heap.size, 4, none⟩ = some (.int .i64 db) := blk_cell (hS17).box 4
    have c5 : w18.cell? ⟨w.heap.size, 5, none⟩ = some (.int .i64 dc) := blk_cell (hS17).box 5
    have c6 : w18.cell? ⟨w.heap.size, 6, none⟩ = some (.int .i64 dd) := blk_cell (hS17).box 6
    have c7 : w18.cell? ⟨w.heap.size, 7, none⟩ = some (.int .i64 wall) := blk_cell (hS17).box 7
    have c8 : w18.cell? ⟨w.heap.size, 8, none⟩ = some (.int .i64 prio) := blk_cell (hS17).box 8
    have c9 : w18.cell? ⟨w.heap.size, 9, none⟩ = some (.int .i64 array) := blk_cell (hS17).box 9
    have c10 : w18.cell? ⟨w.heap.size, 10, none⟩ = some (.int .i64 retries) := blk_cell (hS17).box 10
    have c12 : w18.cell? ⟨w.heap.size, 12, none⟩ = some (.slice so n cp) := blk_cell (hS17).box 12
    replace hS17 := Lib.hid hS17; replace hp := Lib.hid hp; replace hb := Lib.hid hb
    clear hb hp
    have hc27 := textEnd.out _ _ _ (hS17).out
    obtain ⟨sv, hv1, hv2, hv3⟩ := hc27
    have v0 := blk_cell hv1 0
    simp at v0
    replace hv1 := Lib.hid hv1; replace hv3 := Lib.hid hv3
    go_wp2_with fail
    refine hv3.out.mono ?_
    rintro e w20 ⟨rfl, hb⟩
    have hl20 := (hS17).out.low.trans (hb.mono (hS17).out.low.size)
    replace hl20 := Lib.hid hl20; replace hb := Lib.hid hb
    clear c0 c1 c2 c3 c4 c5 c6 c7 c8 c9 c10 c12
    go_wp2
    go_ret
    exact ⟨rfl, hl20.out⟩
  | true =>
    go_wp2_with fail
    refine (putw_any _ _ kHeld { data := #[49] } { data := #[] } _ (hS14).out.put (Nat.le_trans (hS14).out.few (by decide)) (by decide) (by decide)).mono ?_
    rintro e w16 ⟨rfl, hp, hb⟩
    have hS15 := (hS14).out.step hp hb
    clear c0 c1 c2 c3 c4 c5 c6 c7 c8 c9 c10 c12
    have c0 : w16.cell? ⟨w.heap.size, 0, none⟩ = some (.string user) := blk_cell (hS15).box 0
    have c1 : w16.cell? ⟨w.heap.size, 1, none⟩ = some (.string part) := blk_cell (hS15).box 1
    have c2 : w16.cell? ⟨w.heap.size, 2, none⟩ = some (.int .i64 nodes) := blk_cell (hS15).box 2
    have c3 : w16.cell? ⟨w.heap.size, 3, none⟩ = some (.int .i64 da) := blk_cell (hS15).box 3
    have c4 : w16.cell? ⟨w.heap.size, 4, none⟩ = some (.int .i64 db) := blk_cell (hS15).box 4
    have c5 : w16.cell? ⟨w.heap.size, 5, none⟩ = some (.int .i64 dc) := blk_cell (hS15).box 5
    have c6 : w16.cell? ⟨w.heap.size, 6, none⟩ = some (.int .i64 dd) := blk_cell (hS15).box 6
    have c7 : w16.cell? ⟨w.heap.size, 7, none⟩ = some (.int .i64 wall) := blk_cell (hS15).box 7
    have c8 : w16.cell? ⟨w.heap.size, 8, none⟩ = some (.int .i64 prio) := blk_cell (hS15).box 8
    have c9 : w16.cell? ⟨w.heap.size, 9, none⟩ = some (.int .i64 array) := blk_cell (hS15).box 9
    have c10 : w16.cell? ⟨w.heap.size, 10, none⟩ = some (.int .i64 retries) := blk_cell (hS15).box 10
    have c12 : w16.cell? ⟨w.heap.size, 12, none⟩ = some (.slice so n cp) := blk_cell (hS15).box 12
    replace hS15 := Lib.hid hS15; replace hp := Lib.hid hp; replace hb := Lib.hid hb
    clear hb hp
    go_wp2_with fail
    refine (k7.out _ hS15.out.low).mono ?_
    rintro e w17 ⟨rfl, hb⟩
    have hS16 := (hS15).out.on hb
    clear c0 c1 c2 c3 c4 c5 c6 c7 c8 c9 c10 c12
    have c0 : w17.cell? ⟨w.heap.size, 0, none⟩ = some (.string user) := blk_cell (hS16).box 0
    have c1 : w17.cell? ⟨w.heap.size, 1, none⟩ = some (.string part) := blk_cell (hS16).box 1
    have c2 : w17.cell? ⟨w.heap.size, 2, none⟩ = some (.int .i64 nodes) := blk_cell (hS16).box 2
    have c3 : w17.cell? ⟨w.heap.size, 3, none⟩ = some (.int .i64 da) := blk_cell (hS16).box 3
    have c4 : w17.cell? ⟨w.heap.size, 4, none⟩ = some (.int .i64 db) := blk_cell (hS16).box 4
    have c5 : w17.cell? ⟨w.heap.size, 5, none⟩ = some (.int .i64 dc) := blk_cell (hS16).box 5
    have c6 : w17.cell? ⟨w.heap.size, 6, none⟩ = some (.int .i64 dd) := blk_cell (hS16).box 6
    have c7 : w17.cell? ⟨w.heap.size, 7, none⟩ = some (.int .i64 wall) := blk_cell (hS16).box 7
    have c8 : w17.cell? ⟨w.heap.size, 8, none⟩ = some (.int .i64 prio) := blk_cell (hS16).box 8
    have c9 : w17.cell? ⟨w.heap.size, 9, none⟩ = some (.int .i64 array) := blk_cell (hS16).box 9
    have c10 : w17.cell? ⟨w.heap.size, 10, none⟩ = some (.int .i64 retries) := blk_cell (hS16).box 10
    have c12 : w17.cell? ⟨w.heap.size, 12, none⟩ = some (.slice so n cp) := blk_cell (hS16).box 12
    replace hS16 := Lib.hid hS16; replace hb := Lib.hid hb
    clear hb
    go_wp2_with fail
    refine (putw_any _ _ kAfter V7 { data := #[] } _ (hS16).out.put (Nat.le_trans (hS16).out.few (by decide)) (by decide) s7.out).mono ?_
    rintro e w18 ⟨rfl, hp, hb⟩
    have hS17 := (hS16).out.step hp hb
    clear c0 c1 c2 c3 c4 c5 c6 c7 c8 c9 c10 c12
    have c0 : w18.cell? ⟨w.heap.size, 0, none⟩ = some (.string user) := blk_cell (hS17).box 0
    have c1 : w18.cell? ⟨w.heap.size, 1, none⟩ = some (.string part) := blk_cell (hS17).box 1
    have c2 : w18.cell? ⟨w.heap.size, 2, none⟩ = some (.int .i64 nodes) := blk_cell (hS17).box 2
    have c3 : w18.cell? ⟨w.heap.size, 3, none⟩ = some (.int .i64 da) := blk_cell (hS17).box 3
    have c4 : w18.cell? ⟨w.heap.size, 4, none⟩ = some (.int .i64 db) := blk_cell (hS17).box 4
    have c5 : w18.cell? ⟨w.heap.size, 5, none⟩ = some (.int .i64 dc) := blk_cell (hS17).box 5
    have c6 : w18.cell? ⟨w.heap.size, 6, none⟩ = some (.int .i64 dd) := blk_cell (hS17).box 6
    have c7 : w18.cell? ⟨w.heap.size, 7, none⟩ = some (.int .i64 wall) := blk_cell (hS17).box 7
    have c8 : w18.cell? ⟨w.heap.size, 8, none⟩ = some (.int .i64 prio) := blk_cell (hS17).box 8
    have c9 : w18.cell? ⟨w.heap.size, 9, none⟩ = some (.int .i64 array) := blk_cell (hS17).box 9
    have c10 : w18.cell? ⟨w.heap.size, 10, none⟩ = some (.int .i64 retries) := blk_cell (hS17).box 10
    have c12 : w18.cell? ⟨w.heap.size, 12, none⟩ = some (.slice so n cp) := blk_cell (hS17).box 12
    replace hS17 := Lib.hid hS17; replace hp := Lib.hid hp; replace hb := Lib.hid hb
    clear hb hp
    have hc27 := textEnd.out _ _ _ (hS17).out
    obtain ⟨sv, hv1, hv2, hv3⟩ := hc27
    have v0 := blk_cell hv1 0
    simp at v0
    replace hv1 := Lib.hid hv1; replace hv3 := Lib.hid hv3
    go_wp2_with fail
    refine hv3.out.mono ?_
    rintro e w20 ⟨rfl, hb⟩
    have hl20 := (hS17).out.low.trans (hb.mono (hS17).out.low.size)
    replace hl20 := Lib.hid hl20; replace hb := Lib.hid hb
    clear c0 c1 c2 c3 c4 c5 c6 c7 c8 c9 c10 c12
    go_wp2
    go_ret
    exact ⟨rfl, hl20.out⟩
end Go.Proofs.YteoihdkaoipocaaDoor

/- The reader's parts: spec.bound, field, whole. -/
namespace Go.Proofs.YteoihdkaoipocaaDoor
open Go.RowKit Go.Maps Go.Shelf Go.Sort

theorem bound_nodes (w : World) : Calls Tryd.prog 141 #[.string { data := #[110, 111, 100, 101, 115] }] w fun e w' => e = .returned (.tuple #[.int .i64 1, .int .i64 16]) ∧ w' = w := by
  go_enter Tryd.func141, Tryd.ntmps141
  go_wp2
  go_ret2
  exact ⟨rfl, rfl⟩
set_option maxRecDepth 100000 in
theorem field_nodes (rb : Nat) (w : World) : Calls Tryd.prog 142 #[.pointer (some ⟨rb, 0, none⟩), .string { data := #[110, 111, 100, 101, 115] }] w fun e w' => e = .returned (.pointer (some ⟨rb, 2, none⟩)) ∧ w' = w := by
  go_enter Tryd.func142, Tryd.ntmps142
  go_wp2
  go_ret
  exact ⟨rfl, rfl⟩
theorem bound_wall (w : World) : Calls Tryd.prog 141 #[.string { data := #[119, 97, 108, 108] }] w fun e w' => e = .returned (.tuple #[.int .i64 1, .int .i64 1000]) ∧ w' = w := by
  go_enter Tryd.func141, Tryd.ntmps141
  go_wp2
  go_ret2
  exact ⟨rfl, rfl⟩
set_option maxRecDepth 100000 in
theorem field_wall (rb : Nat) (w : World) : Calls Tryd.prog 142 #[.pointer (some ⟨rb, 0, none⟩), .string { data := #[119, 97, 108, 108] }] w fun e w' => e = .returned (.pointer (some ⟨rb, 7, none⟩)) ∧ w' = w := by
  go_enter Tryd.func142, Tryd.ntmps142
  go_wp2
  go_ret
  exact ⟨rfl, rfl⟩
theorem bound_array (w : World) : Calls Tryd.prog 141 #[.string { data := #[97, 114, 114, 97, 121] }] w fun e w' => e = .returned (.tuple #[.int .i64 1, .int .i64 20]) ∧ w' = w := by
  go_enter Tryd.func141, Tryd.ntmps141
  go_wp2
  go_ret2
  exact ⟨rfl, rfl⟩
set_option maxRecDepth 100000 in
theorem field_array (rb : Nat) (w : World) : Calls Tryd.prog 142 #[.pointer (some ⟨rb, 0, none⟩), .string { data := #[97, 114, 114, 97, 121] }] w fun e w' => e = .returned (.pointer (some ⟨rb, 9, none⟩)) ∧ w' = w := by
  go_enter Tryd.func142, Tryd.ntmps142
  go_wp2
  go_ret
  exact ⟨rfl, rfl⟩
theorem bound_prio (w : World) : Calls Tryd.prog 141 #[.string { data := #[112, 114, 105, 111] }] w fun e w' => e = .returned (.tuple #[.int .i64 0, .int .i64 100]) ∧ w' = w := by
  go_enter Tryd.func141, Tryd.ntmps141
  go_wp2
  go_ret2
  exact ⟨rfl, rfl⟩
set_option maxRecDepth 100000 in
theorem field_prio (rb : Nat) (w : World) : Calls Tryd.prog 142 #[.pointer (some ⟨rb, 0, none⟩), .string { data := #[112, 114, 105, 111] }] w fun e w' => e = .returned (.pointer (some ⟨rb, 8, none⟩)) ∧ w' = w := by
  go_enter Tryd.func142, Tryd.ntmps142
  go_wp2
  go_ret
  exact ⟨rfl, rfl⟩
theorem bound_retries (w : World) : Calls Tryd.prog 141 #[.string { data := #[114, 101, 116, 114, 105, 101, 115] }] w fun e w' => e = .returned (.tuple #[.int .i64 0, .int .i64 5]) ∧ w' = w := by
  go_enter Tryd.func141, Tryd.ntmps141
  go_wp2
  go_ret2
  exact ⟨rfl, rfl⟩
set_option maxRecDepth 100000 in
theorem field_retries (rb : Nat) (w : World) : Calls Tryd.prog 142 #[.pointer (some ⟨rb, 0, none⟩), .string { data := #[114, 101, 116, 114, 105, 101, 115] }] w fun e w' => e = .returned (.pointer (some ⟨rb, 10, none⟩)) ∧ w' = w := by
  go_enter Tryd.func142, Tryd.ntmps142
  go_wp2
  go_ret
  exact ⟨rfl, rfl⟩

/-- what becomes of a field that is a number -/
def WhlPost (rb o : Nat) (v : ByteArray) (lo hi : Int) (w : World) (e : Ending) (w' : World) : Prop :=
  (∃ n w2, e = .returned (.bool true) ∧ fieldN v lo hi = some n ∧ Below w.heap.size w w2 ∧ w' = w2.setCell ⟨rb, o, none⟩ (.int .i64 n)) ∨ (e = .returned (.bool false) ∧ fieldN v lo hi = none ∧ Below w.heap.size w w')
set_option maxRecDepth 100000 in
set_option maxHeartbeats 800000 in
theorem whole_any (rb o : Nat) (k v : ByteArray) (lo hi : Int) (w : World) (hb : ∀ w, Calls Tryd.prog 141 #[.string k] w fun e w' => e = .returned (.tuple #[.int .i64 lo, .int .i64 hi]) ∧ w' = w)
    (hf : ∀ w, Calls Tryd.prog 142 #[.pointer (some ⟨rb, 0, none⟩), .string k] w fun e w' => e = .returned (.pointer (some ⟨rb, o, none⟩)) ∧ w' = w) (hv : v.size ≤ maxLen) {c : Array Value} {T : TypeId} (hc : w.heap[rb]? = some (.cells c T (0, 0))) (x0 : Int) (ho : c[o]? = some (.int .i64 x0)) :
    Calls Tryd.prog 107 #[.pointer (some ⟨rb, 0, none⟩), .string k, .string v] w (WhlPost rb o v lo hi w) := by
  have hn := fun w => snum_any v w hv
  obtain ⟨n, hnn⟩ : ∃ n, n = numOf v 13 := ⟨_, rfl⟩
  rw [← hnn] at hn
  have hz : fieldN v lo hi = if betw n lo hi = true then some n else none := by rw [hnn]; rfl
  replace hb := Lib.hid hb; replace hf := Lib.hid hf; replace hn := Lib.hid hn; replace hc := Lib.hid hc; replace hnn := Lib.hid hnn; replace hz := Lib.hid hz; replace ho := Lib.hid ho; replace hv := Lib.hid hv
  go_enter Tryd.func107, Tryd.ntmps107
  go_wp2_with fail
  refine (hb.out _).mono ?_
  rintro e w1 ⟨rfl, rfl⟩
  go_wp2_with fail
  refine (hn.out _).mono ?_
  rintro e w2 ⟨rfl, hb2⟩
  by_cases q1 : n < lo
  · have d : decide (n < lo) = true := decide_eq_true q1
    have hno : fieldN v lo hi = none := by rw [hz.out, if_neg]; intro h; have := betw_iff.1 h; omega
    replace hno := Lib.hid hno; replace hb2 := Lib.hid hb2; replace q1 := Lib.hid q1
    go_wp2
    go_ret
    exact .inr ⟨rfl, hno.out, hb2.out⟩
  have d : decide (n < lo) = false := decide_eq_false q1
  by_cases q2 : hi < n
  · have d : decide (hi < n) = true := decide_eq_true q2
    have hno : fieldN v lo hi = none := by rw [hz.out, if_neg]; intro h; have := betw_iff.1 h; omega
    replace hno := Lib.hid hno; replace hb2 := Lib.hid hb2; replace q1 := Lib.hid q1; replace q2 := Lib.hid q2
    go_wp2
    go_ret
    exact .inr ⟨rfl, hno.out, hb2.out⟩
  have d2 : decide (hi < n) = false := decide_eq_false q2
  have hyes : fieldN v lo hi = some n := by rw [hz.out, if_pos]; exact betw_iff.2 ⟨by omega, by omega⟩
  have hc2 := blk_below hb2 hc.out (blk_lt hc.out)
  have c0 : w2.cell? ⟨rb, o, none⟩ = some (.int .i64 x0) := (blk_cell hc2 o).trans ho.out
  have f0 := blk_free hc2 o
  replace hyes := Lib.hid hyes; replace hb2 := Lib.hid hb2; replace hc2 := Lib.hid hc2; replace q1 := Lib.hid q1; replace q2 := Lib.hid q2
  go_wp2_with fail
  refine (hf.out _).mono ?_
  rintro e w3 ⟨rfl, rfl⟩
  go_wp2
  go_ret
  exact .inl ⟨n, w3, rfl, hyes.out, hb2.out, rfl⟩
end Go.Proofs.YteoihdkaoipocaaDoor

/- spec.numbers; corveeref08.number, row. -/
namespace Go.Proofs.YteoihdkaoipocaaDoor
open Go.RowKit Go.Maps Go.Shelf Go.Sort

theorem numOf_13 (s : ByteArray) : -1 ≤ numOf s 13 ∧ numOf s 13 < 10000000000000 := by
  unfold numOf
  split
  · omega
  · next h =>
    split
    · next d => have := numTo_13 d (by omega); omega
    · omega
theorem manyN_cons (p : List UInt8) (ps : List (List UInt8)) : manyN (p :: ps) = match oneN p with | none => none | some n => match manyN ps with | none => none | some l => some (n :: l) := rfl
theorem manyN_none {p : List UInt8} {ps : List (List UInt8)} (h : oneN p = none) : manyN (p :: ps) = none := by rw [manyN_cons, h]
theorem manyN_some {p : List UInt8} {ps : List (List UInt8)} {n : Int} (h : oneN p = some n) : manyN (p :: ps) = (manyN ps).map fun l => n :: l := by
  rw [manyN_cons, h]
  cases manyN ps <;> rfl
/-- the numbers so far -/
structure NmW (w : World) (all rest : List (List UInt8)) (done : List Int) (ov : Value) (wr : World) : Prop where
  low : Below w.heap.size w wr
  own : OwnI wr w.heap.size ov done
  cut : manyN all = (manyN rest).map fun l => done ++ l
  few : done.length + rest.length = all.length
theorem NmW.start {w w' : World} {all : List (List UInt8)} (h : Below w.heap.size w w') : NmW w all all [] (.slice none 0 0) w' :=
  ⟨h, ⟨rfl, .inl ⟨rfl, rfl⟩⟩, by cases manyN all <;> rfl, by simp⟩
theorem ownI_low {w w' : World} {B : Nat} {v : Value} {xs : List Int} (h : OwnI w B v xs) (hb : Below w.heap.size w w') : OwnI w' B v xs := by
  refine ⟨h.row.1, ?_⟩
  rcases h.row.2 with ⟨hv, h0⟩ | ⟨g, cap, cur, hv, hg, hh, hr⟩
  · exact .inl ⟨hv, h0⟩
  · exact .inr ⟨g, cap, cur, hv, hg, blk_below hb hh (blk_lt hh), hr⟩
theorem NmW.on {w wr w' : World} {all rest : List (List UInt8)} {done : List Int} {ov : Value} (h : NmW w all rest done ov wr) (hb : Below wr.heap.size wr w') : NmW w all rest done ov w' :=
  ⟨h.low.trans (hb.mono h.low.size), ownI_low h.own hb, h.cut, h.few⟩
theorem NmW.step {w w1 w9 : World} {all rest : List (List UInt8)} {p : List UInt8} {done : List Int} {n : Int} {ov ov9 : Value} (h : NmW w all (p :: rest) done ov w1) (hp : oneN p = some n) (ho : OwnI w9 w.heap.size ov9 (done ++ [n])) (hb : Below w.heap.size w w9) : NmW w all rest (done ++ [n]) ov9 w9 :=
  ⟨hb, ho, by rw [h.cut, manyN_some hp]; cases manyN rest <;> simp, by have := h.few; simp at this ⊢; omega⟩
theorem NmW.none {w w1 : World} {all rest : List (List UInt8)} {p : List UInt8} {done : List Int} {ov : Value} (h : NmW w all (p :: rest) done ov w1) (hp : oneN p = none) : manyN all = none := by
  rw [h.cut, manyN_none hp]; rfl
theorem NmW.all {w w1 : World} {all : List (List UInt8)} {done : List Int} {ov : Value} (h : NmW w all [] done ov w1) : manyN all = some done := by
  rw [h.cut]; show (some ([] : List Int)).map _ = _; simp
/-- a row of numbers as it is told, or none -/
def NumsPost (v : ByteArray) (w : World) (e : Ending) (w' : World) : Prop :=
  Below w.heap.size w w' ∧ ((manyN (cutAll 44 v.data.toList) = none ∧ e = .returned (.slice none 0 0)) ∨ ∃ l so n c, manyN (cutAll 44 v.data.toList) = some l ∧ e = .returned (.slice so n c) ∧ n ≤ c ∧ IntsAt w' so n l ∧ 0 < n ∧ ∀ b o, so = some ⟨b, o, none⟩ → w.heap.size ≤ b)
theorem ownI_form {w : World} {B : Nat} {v : Value} {xs : List Int} (h : OwnI w B v xs) : ∃ so n c, v = .slice so n c ∧ n ≤ c ∧ IntsAt w so n xs ∧ ∀ b o, so = some ⟨b, o, none⟩ → B ≤ b ∧ b < w.heap.size := by
  obtain ⟨so, c, e, hi⟩ := ints_of_own h
  have hrow := h.row
  rcases hrow.2 with ⟨hv, h0⟩ | ⟨g, cap, cur, hv, hg, hh, hn, _⟩
  · refine ⟨so, xs.length, c, e, by omega, hi, fun b o e2 => ?_⟩
    rw [e] at hv
    injection hv with hv
    rw [hv] at e2; cases e2
  · refine ⟨so, xs.length, c, e, ?_, hi, fun b o e2 => ?_⟩
    · rw [e] at hv
      injection hv with _ _ hc
      omega
    · have hl := blk_lt hh
      rw [e] at hv
      injection hv with hv
      rw [hv] at e2
      injection e2 with e2
      injection e2 with e2
      omega
theorem hasP_iff (p : List UInt8) : Lib.hasPrefix p [45] = decide (p.head? = some 45) := by
  cases p with
  | nil => rfl
  | cons c r =>
    by_cases h : c = 45
    · subst h; simp [Lib.hasPrefix, List.isPrefixOf]
    · simp [Lib.hasPrefix, List.isPrefixOf, h, Ne.symm h]
theorem trimP_yes {p : List UInt8} (h : p.head? = some 45) : Lib.trimPrefix p [45] = p.tail := by
  cases p with
  | nil => simp at h
  | cons c r =>
    have : c = 45 := by simpa using h
    subst this
    simp [Lib.trimPrefix, Lib.hasPrefix]
theorem trimP_no {p : List UInt8} (h : ¬ p.head? = some 45) : Lib.trimPrefix p [45] = p := by
  cases p with
  | nil => rfl
  | cons c r =>
    have : c ≠ 45 := fun e => h (by simp [e])
    simp [Lib.trimPrefix, Lib.hasPrefix, Ne.symm this]
theorem cutp_call (p q : List UInt8) (m : Bool) (hm : m = decide (p.head? = some 45)) (hq : q = if m = true then p.tail else p) (w : World) : Calls Tryd.prog 139 #[.string (ofL p), .string { data := #[45] }] w fun e w' => e = .returned (.tuple #[.string (ofL q), .bool m]) ∧ w' = w := by
  refine (Tryd.strings_CutPrefix (ofL p) { data := #[45] } w).mono ?_
  rintro e w' ⟨rfl, rfl⟩
  refine ⟨?_, rfl⟩
  have e1 : Lib.hasPrefix (ofL p).data.toList ({ data := #[45] } : ByteArray).data.toList = m := by
    rw [ofL_toL, hm]; exact hasP_iff p
  have e2 : Lib.trimPrefix (ofL p).data.toList ({ data := #[45] } : ByteArray).data.toList = q := by
    rw [ofL_toL, hq]
    show Lib.trimPrefix p [45] = _
    by_cases c : p.head? = some 45
    · rw [trimP_yes c, hm, if_pos (by simp [c])]
    · rw [trimP_no c, hm, if_neg (by simp [c])]
  rw [e1, e2]
  rfl
theorem oneN_eq {p q : List UInt8} {m : Bool} {N : Int} (hm : m = decide (p.head? = some 45)) (hq : q = if m = true then p.tail else p) (hN : N = numOf (ofL q) 13) : oneN p = if N < 0 then none else some (if m = true then -N else N) := by
  unfold oneN
  by_cases c : p.head? = some 45
  · have hm' : m = true := by rw [hm]; simp [c]
    rw [if_pos c, hN, hq, if_pos hm', if_pos hm']
  · have hm' : ¬ m = true := by rw [hm]; simp [c]
    rw [if_neg c, hN, hq, if_neg hm', if_neg hm']
theorem int_new (w : World) (n : Int) : ∀ j u, ([.int .i64 n] : List Value)[j]? = some u → (w.alloc (.cells #[.int .i64 n] 3 (0, 0))).cell? ((⟨w.heap.size, 0, none⟩ : Addr).add j) = some u := one_new w n
set_option maxRecDepth 100000 in
set_option maxHeartbeats 3200000 in
theorem nums_any (s : ByteArray) (w : World) (hm : Mx w) (hs : s.size ≤ 4294967200) : Calls Tryd.prog 106 #[.string s] w (NumsPost s w) := by
  obtain ⟨i3, hi3, hz3, hz31, hz32⟩ := info_parts info3
  have hsp := split_call s 44 w hm (by omega)
  obtain ⟨ps, hpse⟩ : ∃ ps, ps = cutAll 44 s.data.toList := ⟨_, rfl⟩
  obtain ⟨L, hps⟩ : ∃ L, L = ps.length := ⟨_, rfl⟩
  have hLm : L ≤ s.size + 1 := by rw [hps, hpse]; exact cutAll_many _
  have hle : ∀ p, p ∈ ps → p.length ≤ s.size := fun p hp => by rw [hpse] at hp; exact cutAll_le hp
  have hL0 : 0 < L := by rw [hps, hpse]; exact cutAll_pos _ _
  rw [← hpse, ← hps] at hsp
  replace hsp := Lib.hid hsp; replace hpse := Lib.hid hpse; replace hps := Lib.hid hps; replace hle := Lib.hid hle; replace hi3 := Lib.hid hi3; replace hz3 := Lib.hid hz3; replace hz31 := Lib.hid hz31; replace hz32 := Lib.hid hz32; replace hm := Lib.hid hm
  go_enter Tryd.func106, Tryd.ntmps106
  go_wp2_with fail
  refine hsp.out.mono ?_
  rintro e w1 ⟨rfl, hw1⟩
  have hb1 : Below w.heap.size w w1 := by rw [hw1]; exact (Below.refl _ _).alloc (Nat.le_refl _) _
  have hrow : StrsAt w1 (some ⟨w.heap.size, 0, none⟩) L (ps.map ofL) := by
    have := strs_of_blk (w := w1) (b := w.heap.size) (xs := ps.map ofL) (by rw [hw1]; exact blk_new _ _) (by rw [List.length_map, ← hps.out]; omega)
    rw [List.length_map, ← hps.out] at this
    exact this
  replace hw1 := Lib.hid hw1; replace hb1 := Lib.hid hb1; replace hrow := Lib.hid hrow
  go_wp2
  go_loopw [3, 5, 6, 7, 8, 12] (fun ov _ _ _ _ i wr => ∃ (k : Nat) (rest : List (List UInt8)) (done : List Int), i = .int .i64 k ∧ k ≤ L ∧ Hid (rest = ps.drop k) ∧ Hid (NmW w1 ps rest done ov wr)) (fun _ _ _ _ _ i _ => L - (intOf i).toNat)
  case atStart => exact ⟨0, ps, [], rfl, Nat.zero_le _, rfl, NmW.start (Below.refl _ _)⟩
  case round =>
    obtain ⟨k, rest, done, rfl, hk, hrest, hM⟩ := hrel
    by_cases hc : k < L
    · have hc1 : (k : Int) < L := by omega
      have hk0 : (0 : Int) ≤ (k : Int) := by omega
      have hkl : k < ps.length := by rw [← hps.out]; exact hc
      obtain ⟨p, hp⟩ : ∃ p, ps[k]? = some p := ⟨_, List.getElem?_eq_getElem hkl⟩
      have hdr : rest = p :: ps.drop (k + 1) := by
        rw [hrest.out, List.drop_eq_getElem_cons hkl]
        rw [List.getElem?_eq_getElem hkl] at hp
        rw [Option.some.inj hp]
      have hM2 := hM.out
      rw [hdr] at hM2
      have hr := hrow.out.low hM2.low
      obtain ⟨b', off', e', _, c0⟩ := hr.cell k (ofL p) (by rw [List.getElem?_map, hp]; rfl)
      cases e'
      simp only [Nat.zero_add] at c0
      obtain ⟨m, hmm⟩ : ∃ m, m = decide (p.head? = some 45) := ⟨_, rfl⟩
      obtain ⟨q, hq⟩ : ∃ q, q = if m = true then p.tail else p := ⟨_, rfl⟩
      have hcp := cutp_call p q m hmm hq wr
      have hql : (ofL q).size ≤ maxLen := by
        have := hle.out p (List.mem_of_getElem? hp)
        have hm9 : maxLen = 9223372036854775807 := rfl
        rw [ofL_size, hq]
        split
        · rw [List.length_tail]; omega
        · omega
      have hcn := snum_any (ofL q) wr hql
      obtain ⟨N, hN⟩ : ∃ N, N = numOf (ofL q) 13 := ⟨_, rfl⟩
      have hNb := numOf_13 (ofL q)
      rw [← hN] at hNb hcn
      obtain ⟨hN1, hN2⟩ := hNb
      have hon := oneN_eq hmm hq hN
      replace hp := Lib.hid hp; replace hdr := Lib.hid hdr; replace hM2 := Lib.hid hM2; replace hr := Lib.hid hr; replace hmm := Lib.hid hmm; replace hq := Lib.hid hq; replace hcp := Lib.hid hcp; replace hql := Lib.hid hql; replace hcn := Lib.hid hcn; replace hN := Lib.hid hN; replace hon := Lib.hid hon; replace hkl := Lib.hid hkl
      go_wp2_with fail
      refine hcp.out.mono ?_
      rintro e w2 ⟨rfl, rfl⟩
      go_wp2_with fail
      refine hcn.out.mono ?_
      rintro e w3 ⟨rfl, hb3⟩
      have hM3 := hM2.out.on hb3
      clear c0
      replace hb3 := Lib.hid hb3; replace hM3 := Lib.hid hM3
      by_cases hneg : N < 0
      · have d : decide (N < 0) = true := decide_eq_true hneg
        have hno : manyN ps = none := hM3.out.none (by rw [hon.out, if_pos hneg])
        have hlow3 := hb1.out.trans (hM3.out.low.mono hb1.out.size)
        replace hno := Lib.hid hno; replace hlow3 := Lib.hid hlow3; replace hneg := Lib.hid hneg
        go_wp2
        go_ret
        exact ⟨hlow3.out, .inl ⟨by rw [← hpse.out]; exact hno.out, rfl⟩⟩
      have d : decide (N < 0) = false := decide_eq_false hneg
      cases m with
      | true =>
        have hone : oneN p = some (-N) := by rw [hon.out, if_neg hneg]; rfl
        replace hone := Lib.hid hone; replace hneg := Lib.hid hneg
        obtain ⟨Ld, hLd⟩ : ∃ Ld, Ld = done.length := ⟨_, rfl⟩
        have hLk : Ld ≤ L := by rw [hLd]; have := (hM3).out.few; have := hps.out; omega
        have hownA : (w3.alloc (.cells #[.int .i64 (-N)] 3 (0, 0))).ownsRow w1.heap.size 3 1 u3 Ld (intsV done) := by rw [hLd]; exact (hM3).out.own.row.alloc (.cells #[.int .i64 (-N)] 3 (0, 0))
        have hnews := int_new w3 (-N)
        have hone1 : ∀ u ∈ ([.int .i64 (-N)] : List Value), u.oneCell' = true := by simp [Value.oneCell']
        have h63 := maxLen_ge (n := Ld) (by omega)
        have hby : (Ld + 1) * 8 ≤ 140737488355328 := by omega
        have hbas : w1.heap.size ≤ (w3.alloc (.cells #[.int .i64 (-N)] 3 (0, 0))).heap.size := by have := (hM3).out.low.size; simp; omega
        replace hLd := Lib.hid hLd; replace hownA := Lib.hid hownA; replace hnews := Lib.hid hnews; replace hone1 := Lib.hid hone1; replace h63 := Lib.hid h63; replace hby := Lib.hid hby; replace hbas := Lib.hid hbas
        go_wp2_with (at_builtin; refine wpList_append_own _ rfl _ _ 26 rfl w1.heap.size 3 i3 _ 1 8 Tryd.underlying26 hi3.out hz3.out hz31.out hz32.out rfl (by decide) _ Ld _ rfl hownA.out ⟨(w3).heap.size, 0, none⟩ 1 1 [.int .i64 (-N)] rfl rfl hnews.out hone1.out h63.out hby.out hbas.out ?_; intro v1 w7 hown7 hgrow _; obtain ⟨g7, cap1, rfl⟩ := Joins.ownsRow_form hown7 (by omega); replace hown7 := Lib.hid hown7; replace hgrow := Lib.hid hgrow)
        have hO7 : OwnI w7 w1.heap.size (.slice (some ⟨g7, 0, none⟩) (Ld + 1) cap1) (done ++ [-N]) := by
          refine ⟨?_⟩
          rw [List.length_append, ← hLd.out]
          simpa [intsV] using hown7.out
        have hB7 : Below w1.heap.size w1 w7 := ((hM3).out.low.alloc (hM3).out.low.size _).grown hgrow.out hbas.out (fun k hk => ((hM3).out.own.row.lt k hk).1)
        have hM7 := (hM3).out.step hone.out hO7 hB7
        replace hO7 := Lib.hid hO7; replace hB7 := Lib.hid hB7; replace hM7 := Lib.hid hM7
        go_wp2
        go_roundw
        case rel => exact ⟨k + 1, ps.drop (k + 1), done ++ [-N], by go_num, by omega, rfl, hM7.out⟩
        case measure => simp [intOf]; omega
      | false =>
        have hone : oneN p = some N := by rw [hon.out, if_neg hneg]; rfl
        replace hone := Lib.hid hone; replace hneg := Lib.hid hneg
        obtain ⟨Ld, hLd⟩ : ∃ Ld, Ld = done.length := ⟨_, rfl⟩
        have hLk : Ld ≤ L := by rw [hLd]; have := (hM3).out.few; have := hps.out; omega
        have hownA : (w3.alloc (.cells #[.int .i64 (N)] 3 (0, 0))).ownsRow w1.heap.size 3 1 u3 Ld (intsV done) := by rw [hLd]; exact (hM3).out.own.row.alloc (.cells #[.int .i64 (N)] 3 (0, 0))
        have hnews := int_new w3 (N)
        have hone1 : ∀ u ∈ ([.int .i64 (N)] : List Value), u.oneCell' = true := by simp [Value.oneCell']
        have h63 := maxLen_ge (n := Ld) (by omega)
        have hby : (Ld + 1) * 8 ≤ 140737488355328 := by omega
        have hbas : w1.heap.size ≤ (w3.alloc (.cells #[.int .i64 (N)] 3 (0, 0))).heap.size := by have := (hM3).out.low.size; simp; omega
        replace hLd := Lib.hid hLd; replace hownA := Lib.hid hownA; replace hnews := Lib.hid hnews; replace hone1 := Lib.hid hone1; replace h63 := Lib.hid h63; replace hby := Lib.hid hby; replace hbas := Lib.hid hbas
        go_wp2_with (at_builtin; refine wpList_append_own _ rfl _ _ 26 rfl w1.heap.size 3 i3 _ 1 8 Tryd.underlying26 hi3.out hz3.out hz31.out hz32.out rfl (by decide) _ Ld _ rfl hownA.out ⟨(w3).heap.size, 0, none⟩ 1 1 [.int .i64 (N)] rfl rfl hnews.out hone1.out h63.out hby.out hbas.out ?_; intro v1 w7 hown7 hgrow _; obtain ⟨g7, cap1, rfl⟩ := Joins.ownsRow_form hown7 (by omega); replace hown7 := Lib.hid hown7; replace hgrow := Lib.hid hgrow)
        have hO7 : OwnI w7 w1.heap.size (.slice (some ⟨g7, 0, none⟩) (Ld + 1) cap1) (done ++ [N]) := by
          refine ⟨?_⟩
          rw [List.length_append, ← hLd.out]
          simpa [intsV] using hown7.out
        have hB7 : Below w1.heap.size w1 w7 := ((hM3).out.low.alloc (hM3).out.low.size _).grown hgrow.out hbas.out (fun k hk => ((hM3).out.own.row.lt k hk).1)
        have hM7 := (hM3).out.step hone.out hO7 hB7
        replace hO7 := Lib.hid hO7; replace hB7 := Lib.hid hB7; replace hM7 := Lib.hid hM7
        go_wp2
        go_roundw
        case rel => exact ⟨k + 1, ps.drop (k + 1), done ++ [N], by go_num, by omega, rfl, hM7.out⟩
        case measure => simp [intOf]; omega
    · have hc1 : ¬ (k : Int) < L := by omega
      have hkL : k = L := by omega
      have hM2 := hM.out
      have hr0 : rest = [] := by rw [hrest.out, hkL, hps.out, List.drop_length]
      rw [hr0] at hM2
      have hall := hM2.all
      obtain ⟨so, n, c, e, hnc, hi, hfr⟩ := ownI_form hM2.own
      subst e
      have hlow := hb1.out.trans (hM2.low.mono hb1.out.size)
      have hn0 : 0 < n := by
        have h3 := hM2.few
        rw [List.length_nil] at h3
        have h2 := hi.len
        have h4 := hps.out
        omega
      have hfr2 : ∀ b o, so = some ⟨b, o, none⟩ → w.heap.size ≤ b := fun b o e => Nat.le_trans hb1.out.size (hfr b o e).1
      clear hfr
      replace hM2 := Lib.hid hM2; replace hr0 := Lib.hid hr0; replace hall := Lib.hid hall; replace hlow := Lib.hid hlow; replace hi := Lib.hid hi; replace hkL := Lib.hid hkL; replace hn0 := Lib.hid hn0; replace hnc := Lib.hid hnc; replace hM := Lib.hid hM; replace hfr2 := Lib.hid hfr2
      go_wp2
      go_ret
      exact ⟨hlow.out, .inr ⟨done, so, n, c, by rw [← hpse.out]; exact hall.out, rfl, hnc.out, hi.out, hn0.out, hfr2.out⟩⟩
end Go.Proofs.YteoihdkaoipocaaDoor
