/- Parts Ev0, Evc, Evd, Evp, Rmy, Rmz in one text. Plain theorems: no condition. -/
import Derived.Test.YteoihdkaoipocaaGreatDoorQe
import Derived.Test.YteoihdkaoipocaaGreatDoorQb
import Derived.Test.YteoihdkaoipocaaGreatDoorQc
import Derived.Deep.DeepCutAuto
import Derived.Deep.CutBlock
/- event.fields, event.Client: the fields of an event that are numbers. Plain theorems: no condition. -/
namespace Go.Proofs.YteoihdkaoipocaaGreatDoor
open Go.RowKit Go.Maps

/-- an event's numbers -/
structure Evn where
  kind : Int
  epoch : Int
  tick : Int
  client : Int
  seq : Int
  job : Int
  attempt : Int
  node : Int
  how : Int
deriving DecidableEq
def Evn.get (e : Evn) : Nat → Int
  | 0 => e.kind
  | 1 => e.epoch
  | 2 => e.tick
  | 3 => e.client
  | 4 => e.seq
  | 5 => e.job
  | 6 => e.attempt
  | 7 => e.node
  | 8 => e.how
  | _ => 0
def Evn.set (e : Evn) (v : Int) : Nat → Evn
  | 1 => { e with epoch := v }
  | 2 => { e with tick := v }
  | 3 => { e with client := v }
  | 4 => { e with seq := v }
  | 5 => { e with job := v }
  | 6 => { e with attempt := v }
  | 7 => { e with node := v }
  | 8 => { e with how := v }
  | _ => e
/-- a field: its place, its least and its greatest number -/
abbrev Fld := Nat × Int × Int
def fldEp : Fld := (1, 1, 1099511627776)
def fldTk : Fld := (2, 0, 1099511627775)
def fldCl : Fld := (3, 1, 16)
def fldSq : Fld := (4, 1, 1099511627776)
def fldJb : Fld := (5, 1, 100)
def fldAt : Fld := (6, 1, 6)
def fldNd : Fld := (7, 0, 15)
def fldHw : Fld := (8, 1, 3)
def fldsOf (k : Int) : Option (List Fld) :=
  if k = 1 then some [fldEp] else if k = 2 then some [fldCl, fldSq] else if k = 3 ∨ k = 4 ∨ k = 5 then some [fldCl, fldSq, fldJb] else if k = 6 then some [fldTk]
  else if k = 7 then some [fldJb, fldAt, fldNd, fldHw] else if k = 8 ∨ k = 9 then some [fldNd, fldTk] else if k = 10 ∨ k = 11 then some [fldCl, fldSq, fldNd] else none
def fldV (eb : Nat) (f : Fld) : List Value := [.pointer (some ⟨eb, f.1, none⟩), .int .i64 f.2.1, .int .i64 f.2.2]
theorem fall_any (so : Option Addr) (n c : Nat) (w : World) : Calls Tryz.prog 83 #[.slice so n c] w fun e w' => e = .returned (.tuple #[.slice so n c, .bool true]) ∧ w' = w := by
  go_enter Tryz.func83, Tryz.ntmps83
  go_wp2
  go_ret2
  exact ⟨rfl, rfl⟩
def FldPost (eb : Nat) (fs : List Fld) (w : World) (e : Ending) (w' : World) : Prop :=
  ∃ g, e = .returned (.tuple #[.slice (some ⟨g, 0, none⟩) fs.length fs.length, .bool true]) ∧ w.heap.size ≤ g ∧ w'.heap[g]? = some (.cells (fs.flatMap (fldV eb)).toArray 93 (0, 0)) ∧ Below w.heap.size w w'
def FldP (k : Int) (eb : Nat) (w : World) (e : Ending) (w' : World) : Prop := match fldsOf k with
  | some fs => FldPost eb fs w e w'
  | none => e = .returned (.tuple #[.slice none 0 0, .bool false]) ∧ Below w.heap.size w w'
theorem fldp_yes {k : Int} {eb : Nat} {fs : List Fld} {w w' : World} {e : Ending} (ef : fldsOf k = some fs) (h : FldPost eb fs w e w') : FldP k eb w e w' := by unfold FldP; rw [ef]; exact h
theorem fldp_no {k : Int} {eb : Nat} {w w' : World} {e : Ending} (ef : fldsOf k = none) (h : e = .returned (.tuple #[.slice none 0 0, .bool false]) ∧ Below w.heap.size w w') : FldP k eb w e w' := by unfold FldP; rw [ef]; exact h
theorem alloc8 (w : World) (o0 o1 o2 o3 o4 o5 o6 o7 : Obj) : ((((((((w.alloc o0).alloc o1).alloc o2).alloc o3).alloc o4).alloc o5).alloc o6).alloc o7).heap[w.heap.size]? = some o0 ∧ ((((((((w.alloc o0).alloc o1).alloc o2).alloc o3).alloc o4).alloc o5).alloc o6).alloc o7).heap[w.heap.size + 1]? = some o1 ∧ ((((((((w.alloc o0).alloc o1).alloc o2).alloc o3).alloc o4).alloc o5).alloc o6).alloc o7).heap[w.heap.size + 1 + 1]? = some o2 ∧ ((((((((w.alloc o0).alloc o1).alloc o2).alloc o3).alloc o4).alloc o5).alloc o6).alloc o7).heap[w.heap.size + 1 + 1 + 1]? = some o3 ∧ ((((((((w.alloc o0).alloc o1).alloc o2).alloc o3).alloc o4).alloc o5).alloc o6).alloc o7).heap[w.heap.size + 1 + 1 + 1 + 1]? = some o4 ∧ ((((((((w.alloc o0).alloc o1).alloc o2).alloc o3).alloc o4).alloc o5).alloc o6).alloc o7).heap[w.heap.size + 1 + 1 + 1 + 1 + 1]? = some o5 ∧ ((((((((w.alloc o0).alloc o1).alloc o2).alloc o3).alloc o4).alloc o5).alloc o6).alloc o7).heap[w.heap.size + 1 + 1 + 1 + 1 + 1 + 1]? = some o6 ∧ ((((((((w.alloc o0).alloc o1).alloc o2).alloc o3).alloc o4).alloc o5).alloc o6).alloc o7).heap[w.heap.size + 1 + 1 + 1 + 1 + 1 + 1 + 1]? = some o7 ∧ Below w.heap.size w ((((((((w.alloc o0).alloc o1).alloc o2).alloc o3).alloc o4).alloc o5).alloc o6).alloc o7) := by
  exact ⟨blk_old o7 (blk_old o6 (blk_old o5 (blk_old o4 (blk_old o3 (blk_old o2 (blk_old o1 (blk_at w o0 (by simp)))))))), blk_old o7 (blk_old o6 (blk_old o5 (blk_old o4 (blk_old o3 (blk_old o2 (blk_at (w.alloc o0) o1 (by simp))))))), blk_old o7 (blk_old o6 (blk_old o5 (blk_old o4 (blk_old o3 (blk_at ((w.alloc o0).alloc o1) o2 (by simp)))))), blk_old o7 (blk_old o6 (blk_old o5 (blk_old o4 (blk_at (((w.alloc o0).alloc o1).alloc o2) o3 (by simp))))), blk_old o7 (blk_old o6 (blk_old o5 (blk_at ((((w.alloc o0).alloc o1).alloc o2).alloc o3) o4 (by simp)))), blk_old o7 (blk_old o6 (blk_at (((((w.alloc o0).alloc o1).alloc o2).alloc o3).alloc o4) o5 (by simp))), blk_old o7 (blk_at ((((((w.alloc o0).alloc o1).alloc o2).alloc o3).alloc o4).alloc o5) o6 (by simp)), blk_at (((((((w.alloc o0).alloc o1).alloc o2).alloc o3).alloc o4).alloc o5).alloc o6) o7 (by simp), ((((((((Below.refl _ _).alloc (by simp; try omega) _).alloc (by simp; try omega) _).alloc (by simp; try omega) _).alloc (by simp; try omega) _).alloc (by simp; try omega) _).alloc (by simp; try omega) _).alloc (by simp; try omega) _).alloc (by simp; try omega) _⟩
set_option maxRecDepth 100000 in
set_option maxHeartbeats 6400000 in
theorem fields_all {w : World} {eb : Nat} {k : Int} (h0 : w.cell? ⟨eb, 0, none⟩ = some (.int .i64 k)) : Calls Tryz.prog 44 #[.pointer (some ⟨eb, 0, none⟩)] w (FldP k eb w) := by
  have hlt := World.block_lt_of_cell? w _ h0
  obtain ⟨W, hW⟩ : ∃ W, W = ((((((((w.alloc (.cells #[.pointer (some ⟨eb, 1, none⟩), .int .i64 1, .int .i64 1099511627776] 93 (0, 0))).alloc (.cells #[.pointer (some ⟨eb, 2, none⟩), .int .i64 0, .int .i64 1099511627775] 93 (0, 0))).alloc (.cells #[.pointer (some ⟨eb, 3, none⟩), .int .i64 1, .int .i64 16] 93 (0, 0))).alloc (.cells #[.pointer (some ⟨eb, 4, none⟩), .int .i64 1, .int .i64 1099511627776] 93 (0, 0))).alloc (.cells #[.pointer (some ⟨eb, 5, none⟩), .int .i64 1, .int .i64 100] 93 (0, 0))).alloc (.cells #[.pointer (some ⟨eb, 6, none⟩), .int .i64 1, .int .i64 6] 93 (0, 0))).alloc (.cells #[.pointer (some ⟨eb, 7, none⟩), .int .i64 0, .int .i64 15] 93 (0, 0))).alloc (.cells #[.pointer (some ⟨eb, 8, none⟩), .int .i64 1, .int .i64 3] 93 (0, 0))) := ⟨_, rfl⟩
  obtain ⟨b0, b1, b2, b3, b4, b5, b6, b7, hlow⟩ := alloc8 w (.cells #[.pointer (some ⟨eb, 1, none⟩), .int .i64 1, .int .i64 1099511627776] 93 (0, 0)) (.cells #[.pointer (some ⟨eb, 2, none⟩), .int .i64 0, .int .i64 1099511627775] 93 (0, 0)) (.cells #[.pointer (some ⟨eb, 3, none⟩), .int .i64 1, .int .i64 16] 93 (0, 0)) (.cells #[.pointer (some ⟨eb, 4, none⟩), .int .i64 1, .int .i64 1099511627776] 93 (0, 0)) (.cells #[.pointer (some ⟨eb, 5, none⟩), .int .i64 1, .int .i64 100] 93 (0, 0)) (.cells #[.pointer (some ⟨eb, 6, none⟩), .int .i64 1, .int .i64 6] 93 (0, 0)) (.cells #[.pointer (some ⟨eb, 7, none⟩), .int .i64 0, .int .i64 15] 93 (0, 0)) (.cells #[.pointer (some ⟨eb, 8, none⟩), .int .i64 1, .int .i64 3] 93 (0, 0))
  rw [← hW] at b0 b1 b2 b3 b4 b5 b6 b7 hlow
  have y0 : W.cell? ⟨eb, 0, none⟩ = some (.int .i64 k) := (below_cell hlow hlt).trans h0
  have p00 : W.cell? ⟨w.heap.size, 0, none⟩ = some (.pointer (some ⟨eb, 1, none⟩)) := blk_cell b0 0
  have p01 : W.cell? ⟨w.heap.size, 1, none⟩ = some (.int .i64 1) := blk_cell b0 1
  have p02 : W.cell? ⟨w.heap.size, 2, none⟩ = some (.int .i64 1099511627776) := blk_cell b0 2
  have p10 : W.cell? ⟨w.heap.size + 1, 0, none⟩ = some (.pointer (some ⟨eb, 2, none⟩)) := blk_cell b1 0
  have p11 : W.cell? ⟨w.heap.size + 1, 1, none⟩ = some (.int .i64 0) := blk_cell b1 1
  have p12 : W.cell? ⟨w.heap.size + 1, 2, none⟩ = some (.int .i64 1099511627775) := blk_cell b1 2
  have p20 : W.cell? ⟨w.heap.size + 1 + 1, 0, none⟩ = some (.pointer (some ⟨eb, 3, none⟩)) := blk_cell b2 0
  have p21 : W.cell? ⟨w.heap.size + 1 + 1, 1, none⟩ = some (.int .i64 1) := blk_cell b2 1
  have p22 : W.cell? ⟨w.heap.size + 1 + 1, 2, none⟩ = some (.int .i64 16) := blk_cell b2 2
  have p30 : W.cell? ⟨w.heap.size + 1 + 1 + 1, 0, none⟩ = some (.pointer (some ⟨eb, 4, none⟩)) := blk_cell b3 0
  have p31 : W.cell? ⟨w.heap.size + 1 + 1 + 1, 1, none⟩ = some (.int .i64 1) := blk_cell b3 1
  have p32 : W.cell? ⟨w.heap.size + 1 + 1 + 1, 2, none⟩ = some (.int .i64 1099511627776) := blk_cell b3 2
  have p40 : W.cell? ⟨w.heap.size + 1 + 1 + 1 + 1, 0, none⟩ = some (.pointer (some ⟨eb, 5, none⟩)) := blk_cell b4 0
  have p41 : W.cell? ⟨w.heap.size + 1 + 1 + 1 + 1, 1, none⟩ = some (.int .i64 1) := blk_cell b4 1
  have p42 : W.cell? ⟨w.heap.size + 1 + 1 + 1 + 1, 2, none⟩ = some (.int .i64 100) := blk_cell b4 2
  have p50 : W.cell? ⟨w.heap.size + 1 + 1 + 1 + 1 + 1, 0, none⟩ = some (.pointer (some ⟨eb, 6, none⟩)) := blk_cell b5 0
  have p51 : W.cell? ⟨w.heap.size + 1 + 1 + 1 + 1 + 1, 1, none⟩ = some (.int .i64 1) := blk_cell b5 1
  have p52 : W.cell? ⟨w.heap.size + 1 + 1 + 1 + 1 + 1, 2, none⟩ = some (.int .i64 6) := blk_cell b5 2
  have p60 : W.cell? ⟨w.heap.size + 1 + 1 + 1 + 1 + 1 + 1, 0, none⟩ = some (.pointer (some ⟨eb, 7, none⟩)) := blk_cell b6 0
  have p61 : W.cell? ⟨w.heap.size + 1 + 1 + 1 + 1 + 1 + 1, 1, none⟩ = some (.int .i64 0) := blk_cell b6 1
  have p62 : W.cell? ⟨w.heap.size + 1 + 1 + 1 + 1 + 1 + 1, 2, none⟩ = some (.int .i64 15) := blk_cell b6 2
  have p70 : W.cell? ⟨w.heap.size + 1 + 1 + 1 + 1 + 1 + 1 + 1, 0, none⟩ = some (.pointer (some ⟨eb, 8, none⟩)) := blk_cell b7 0
  have p71 : W.cell? ⟨w.heap.size + 1 + 1 + 1 + 1 + 1 + 1 + 1, 1, none⟩ = some (.int .i64 1) := blk_cell b7 1
  have p72 : W.cell? ⟨w.heap.size + 1 + 1 + 1 + 1 + 1 + 1 + 1, 2, none⟩ = some (.int .i64 3) := blk_cell b7 2
  have hW2 := Lib.hid hW
  clear hW b0 b1 b2 b3 b4 b5 b6 b7
  replace hlow := Lib.hid hlow; replace h0 := Lib.hid h0
  go_enter Tryz.func44, Tryz.ntmps44
  go_upto_region 10 with fail
  rw [← hW2.out]
  clear hW2
  by_cases k1 : k = 1
  · subst k1
    have ef : fldsOf 1 = some [fldEp] := rfl
    replace ef := Lib.hid ef
    go_wp2_with fail
    refine (fall_any _ _ _ _).mono ?_
    rintro e w2 ⟨rfl, rfl⟩
    go_wp2
    go_ret2
    exact fldp_yes ef.out ⟨_, rfl, hlow.out.size, blk_new _ _, hlow.out.alloc hlow.out.size _⟩
  by_cases k2 : k = 2
  · subst k2
    have ef : fldsOf 2 = some [fldCl, fldSq] := rfl
    replace ef := Lib.hid ef
    go_wp2_with fail
    refine (fall_any _ _ _ _).mono ?_
    rintro e w2 ⟨rfl, rfl⟩
    go_wp2
    go_ret2
    exact fldp_yes ef.out ⟨_, rfl, hlow.out.size, blk_new _ _, hlow.out.alloc hlow.out.size _⟩
  by_cases k3 : k = 3
  · subst k3
    have ef : fldsOf 3 = some [fldCl, fldSq, fldJb] := rfl
    replace ef := Lib.hid ef
    go_wp2_with fail
    refine (fall_any _ _ _ _).mono ?_
    rintro e w2 ⟨rfl, rfl⟩
    go_wp2
    go_ret2
    exact fldp_yes ef.out ⟨_, rfl, hlow.out.size, blk_new _ _, hlow.out.alloc hlow.out.size _⟩
  by_cases k4 : k = 4
  · subst k4
    have ef : fldsOf 4 = some [fldCl, fldSq, fldJb] := rfl
    replace ef := Lib.hid ef
    go_wp2_with fail
    refine (fall_any _ _ _ _).mono ?_
    rintro e w2 ⟨rfl, rfl⟩
    go_wp2
    go_ret2
    exact fldp_yes ef.out ⟨_, rfl, hlow.out.size, blk_new _ _, hlow.out.alloc hlow.out.size _⟩
  by_cases k5 : k = 5
  · subst k5
    have ef : fldsOf 5 = some [fldCl, fldSq, fldJb] := rfl
    replace ef := Lib.hid ef
    go_wp2_with fail
    refine (fall_any _ _ _ _).mono ?_
    rintro e w2 ⟨rfl, rfl⟩
    go_wp2
    go_ret2
    exact fldp_yes ef.out ⟨_, rfl, hlow.out.size, blk_new _ _, hlow.out.alloc hlow.out.size _⟩
  by_cases k6 : k = 6
  · subst k6
    have ef : fldsOf 6 = some [fldTk] := rfl
    replace ef := Lib.hid ef
    go_wp2_with fail
    refine (fall_any _ _ _ _).mono ?_
    rintro e w2 ⟨rfl, rfl⟩
    go_wp2
    go_ret2
    exact fldp_yes ef.out ⟨_, rfl, hlow.out.size, blk_new _ _, hlow.out.alloc hlow.out.size _⟩
  by_cases k7 : k = 7
  · subst k7
    have ef : fldsOf 7 = some [fldJb, fldAt, fldNd, fldHw] := rfl
    replace ef := Lib.hid ef
    go_wp2_with fail
    refine (fall_any _ _ _ _).mono ?_
    rintro e w2 ⟨rfl, rfl⟩
    go_wp2
    go_ret2
    exact fldp_yes ef.out ⟨_, rfl, hlow.out.size, blk_new _ _, hlow.out.alloc hlow.out.size _⟩
  by_cases k8 : k = 8
  · subst k8
    have ef : fldsOf 8 = some [fldNd, fldTk] := rfl
    replace ef := Lib.hid ef
    go_wp2_with fail
    refine (fall_any _ _ _ _).mono ?_
    rintro e w2 ⟨rfl, rfl⟩
    go_wp2
    go_ret2
    exact fldp_yes ef.out ⟨_, rfl, hlow.out.size, blk_new _ _, hlow.out.alloc hlow.out.size _⟩
  by_cases k9 : k = 9
  · subst k9
    have ef : fldsOf 9 = some [fldNd, fldTk] := rfl
    replace ef := Lib.hid ef
    go_wp2_with fail
    refine (fall_any _ _ _ _).mono ?_
    rintro e w2 ⟨rfl, rfl⟩
    go_wp2
    go_ret2
    exact fldp_yes ef.out ⟨_, rfl, hlow.out.size, blk_new _ _, hlow.out.alloc hlow.out.size _⟩
  by_cases k10 : k = 10
  · subst k10
    have ef : fldsOf 10 = some [fldCl, fldSq, fldNd] := rfl
    replace ef := Lib.hid ef
    go_wp2_with fail
    refine (fall_any _ _ _ _).mono ?_
    rintro e w2 ⟨rfl, rfl⟩
    go_wp2
    go_ret2
    exact fldp_yes ef.out ⟨_, rfl, hlow.out.size, blk_new _ _, hlow.out.alloc hlow.out.size _⟩
  by_cases k11 : k = 11
  · subst k11
    have ef : fldsOf 11 = some [fldCl, fldSq, fldNd] := rfl
    replace ef := Lib.hid ef
    go_wp2_with fail
    refine (fall_any _ _ _ _).mono ?_
    rintro e w2 ⟨rfl, rfl⟩
    go_wp2
    go_ret2
    exact fldp_yes ef.out ⟨_, rfl, hlow.out.size, blk_new _ _, hlow.out.alloc hlow.out.size _⟩
  have ef : fldsOf k = none := by unfold fldsOf; rw [if_neg k1, if_neg k2, if_neg (by omega), if_neg k6, if_neg k7, if_neg (by omega), if_neg (by omega)]
  replace ef := Lib.hid ef
  have d1 : (k == (1 : Int)) = false := beq_eq_false_iff_ne.2 k1
  have d2 : (k == (2 : Int)) = false := beq_eq_false_iff_ne.2 k2
  have d3 : (k == (3 : Int)) = false := beq_eq_false_iff_ne.2 k3
  have d4 : (k == (4 : Int)) = false := beq_eq_false_iff_ne.2 k4
  have d5 : (k == (5 : Int)) = false := beq_eq_false_iff_ne.2 k5
  have d6 : (k == (6 : Int)) = false := beq_eq_false_iff_ne.2 k6
  have d7 : (k == (7 : Int)) = false := beq_eq_false_iff_ne.2 k7
  have d8 : (k == (8 : Int)) = false := beq_eq_false_iff_ne.2 k8
  have d9 : (k == (9 : Int)) = false := beq_eq_false_iff_ne.2 k9
  have d10 : (k == (10 : Int)) = false := beq_eq_false_iff_ne.2 k10
  have d11 : (k == (11 : Int)) = false := beq_eq_false_iff_ne.2 k11
  replace k1 := Lib.hid k1; replace k2 := Lib.hid k2; replace k3 := Lib.hid k3; replace k4 := Lib.hid k4; replace k5 := Lib.hid k5; replace k6 := Lib.hid k6; replace k7 := Lib.hid k7; replace k8 := Lib.hid k8; replace k9 := Lib.hid k9; replace k10 := Lib.hid k10; replace k11 := Lib.hid k11
  go_wp2
  go_ret2
  exact fldp_no ef.out ⟨rfl, hlow.out⟩
end Go.Proofs.YteoihdkaoipocaaGreatDoor

/- event.Check. Plain theorems: no condition. -/
namespace Go.Proofs.YteoihdkaoipocaaGreatDoor
open Go.RowKit Go.Maps

/-- an event as told -/
structure Evp where
  n : Evn
  specs : List Spp
/-- an event in memory -/
structure Evv where
  n : Evn
  so : Option Addr
  m : Nat
  c : Nat
  sps : List Spv
def Evv.pl (x : Evv) : Evp := ⟨x.n, x.sps.map Spv.pl⟩
abbrev Evv.cells (x : Evv) : Array Value := #[.int .i64 x.n.kind, .int .i64 x.n.epoch, .int .i64 x.n.tick, .int .i64 x.n.client, .int .i64 x.n.seq, .int .i64 x.n.job, .int .i64 x.n.attempt, .int .i64 x.n.node, .int .i64 x.n.how, .slice x.so x.m x.c]
abbrev Evv.val (x : Evv) : Value := .agg #[.int .i64 x.n.kind, .int .i64 x.n.epoch, .int .i64 x.n.tick, .int .i64 x.n.client, .int .i64 x.n.seq, .int .i64 x.n.job, .int .i64 x.n.attempt, .int .i64 x.n.node, .int .i64 x.n.how, .slice x.so x.m x.c]
structure Evv.ok (w : World) (x : Evv) : Prop where
  sps : SpsAt w x.so x.m x.sps
  ple : x.m ≤ x.c
  rng : ∀ i, -9223372036854775808 ≤ x.n.get i ∧ x.n.get i ≤ 9223372036854775807
theorem Evv.ok.low {w w' : World} {x : Evv} (h : x.ok w) (hb : Below w.heap.size w w') : x.ok w' := ⟨h.sps.low hb, h.ple, h.rng⟩
/-- an event's box -/
structure BoxE (w : World) (x : Evv) (wr : World) : Prop where
  low : Below w.heap.size w wr
  box : wr.heap[w.heap.size]? = some (.cells x.cells 43 (0, 0))
theorem BoxE.below {w wr w' : World} {x : Evv} (h : BoxE w x wr) (hb : Below wr.heap.size wr w') : BoxE w x w' :=
  ⟨h.low.trans (hb.mono h.low.size), blk_below hb h.box (blk_lt h.box)⟩
theorem BoxE.new (w : World) (x : Evv) : BoxE w x (w.alloc (.cells x.cells 43 (0, 0))) := ⟨(Below.refl _ _).alloc (Nat.le_refl _) _, blk_new _ _⟩
theorem BoxE.ok {w wr : World} {x : Evv} (h : BoxE w x wr) (hx : x.ok w) : x.ok wr := hx.low h.low
theorem evv_get (x : Evv) {i : Nat} (hi : i ≤ 8) : x.cells[i]? = some (.int .i64 (x.n.get i)) := by
  have : i = 0 ∨ i = 1 ∨ i = 2 ∨ i = 3 ∨ i = 4 ∨ i = 5 ∨ i = 6 ∨ i = 7 ∨ i = 8 := by omega
  rcases this with rfl | rfl | rfl | rfl | rfl | rfl | rfl | rfl | rfl <;> rfl
theorem evv_set (x : Evv) {i : Nat} (h1 : 1 ≤ i) (hi : i ≤ 8) (v : Int) : x.cells.setIfInBounds i (.int .i64 v) = (⟨x.n.set v i, x.so, x.m, x.c, x.sps⟩ : Evv).cells := by
  have : i = 1 ∨ i = 2 ∨ i = 3 ∨ i = 4 ∨ i = 5 ∨ i = 6 ∨ i = 7 ∨ i = 8 := by omega
  rcases this with rfl | rfl | rfl | rfl | rfl | rfl | rfl | rfl <;> simp [Evn.set]
theorem set_kind (e : Evn) (v : Int) (i : Nat) : (e.set v i).kind = e.kind := by
  unfold Evn.set
  split <;> rfl
def inR (e : Evn) (f : Fld) : Bool := decide (f.2.1 ≤ e.get f.1) && decide (e.get f.1 ≤ f.2.2)
/-- the fields looked at, each turned to nothing -/
def chkF : Evn → List Fld → Option Evn
  | e, [] => some e
  | e, f :: fs => if inR e f = true then chkF (e.set 0 f.1) fs else none
def restZ (e : Evn) : Bool := decide (e.epoch = 0) && decide (e.tick = 0) && decide (e.client = 0) && decide (e.seq = 0) && decide (e.job = 0) && decide (e.attempt = 0) && decide (e.node = 0) && decide (e.how = 0)
def kindS (e : Evp) : Bool := decide (e.n.kind = 2) == decide (0 < e.specs.length)
def mayE (e : Evp) : Bool := match fldsOf e.n.kind with
  | none => false
  | some fs => match chkF e.n fs with
    | none => false
    | some e' => kindS e && decide (e.specs.length ≤ 8) && e.specs.all mayS && restZ e'
def errE (e : Evp) : Int := if mayE e = true then 0 else 130
theorem errE_no {e : Evp} (h : mayE e = false) : errE e = 130 := if_neg (by rw [h]; simp)
theorem errE_yes {e : Evp} (h : mayE e = true) : errE e = 0 := if_pos h
theorem mayE_none {e : Evp} (h : fldsOf e.n.kind = none) : mayE e = false := by unfold mayE; rw [h]
theorem mayE_bad {e : Evp} {fs : List Fld} (h : fldsOf e.n.kind = some fs) (h2 : chkF e.n fs = none) : mayE e = false := by unfold mayE; rw [h]; simp only [h2]
theorem mayE_some {e : Evp} {fs : List Fld} {e' : Evn} (h : fldsOf e.n.kind = some fs) (h2 : chkF e.n fs = some e') : mayE e = (kindS e && decide (e.specs.length ≤ 8) && e.specs.all mayS && restZ e') := by unfold mayE; rw [h]; simp only [h2]
theorem flds_ok {k : Int} {fs : List Fld} (h : fldsOf k = some fs) : fs.length ≤ 4 ∧ ∀ f, f ∈ fs → 1 ≤ f.1 ∧ f.1 ≤ 8 ∧ 0 ≤ f.2.1 ∧ f.2.1 ≤ f.2.2 ∧ f.2.2 ≤ 1099511627776 := by
  unfold fldsOf at h
  repeat (split at h; (cases h; exact ⟨by decide, by decide⟩))
  cases h
theorem chkF_step {e : Evn} {fs : List Fld} {k : Nat} {f : Fld} (hf : fs[k]? = some f) : chkF e (fs.drop k) = if inR e f = true then chkF (e.set 0 f.1) (fs.drop (k + 1)) else none := by
  obtain ⟨hk, e1⟩ := List.getElem?_eq_some_iff.1 hf
  rw [List.drop_eq_getElem_cons hk, e1, chkF]
theorem fld_cell {w : World} {g eb : Nat} {fs : List Fld} (h : w.heap[g]? = some (.cells (fs.flatMap (fldV eb)).toArray 93 (0, 0))) {k : Nat} {f : Fld} (hf : fs[k]? = some f) :
    w.cell? ⟨g, k * 3, none⟩ = some (.pointer (some ⟨eb, f.1, none⟩)) ∧ w.cell? ⟨g, k * 3 + 1, none⟩ = some (.int .i64 f.2.1) ∧ w.cell? ⟨g, k * 3 + 2, none⟩ = some (.int .i64 f.2.2) := by
  have hg := fun j hj => flatv_get (cells := fun f => (fldV eb f).toArray) (sz := 3) (fun _ => rfl) fs (j := j) hf hj
  have e1 : flatv (fun f => (fldV eb f).toArray) fs = fs.flatMap (fldV eb) := rfl
  rw [e1] at hg
  have h0 := hg 0 (by omega); have h1 := hg 1 (by omega); have h2 := hg 2 (by omega)
  rw [List.getElem?_toArray] at h0 h1 h2
  refine ⟨?_, ?_, ?_⟩
  · rw [blk_cell h]; exact (List.getElem?_toArray ..).trans h0
  · rw [blk_cell h]; exact (List.getElem?_toArray ..).trans h1
  · rw [blk_cell h]; exact (List.getElem?_toArray ..).trans h2
end Go.Proofs.YteoihdkaoipocaaGreatDoor

/- event.Check 50: may an event be? Plain theorems: no condition. -/
namespace Go.Proofs.YteoihdkaoipocaaGreatDoor
open Go.RowKit Go.Maps

structure EckW (w : World) (g : Nat) (row : Array Value) (x : Evv) (wr : World) : Prop where
  bx : BoxE w x wr
  row : wr.heap[g]? = some (.cells row 93 (0, 0))
theorem EckW.below {w wr w' : World} {g : Nat} {row : Array Value} {x : Evv} (h : EckW w g row x wr) (hb : Below wr.heap.size wr w') : EckW w g row x w' :=
  ⟨h.bx.below hb, blk_below hb h.row (blk_lt h.row)⟩
theorem EckW.set {w wr : World} {g : Nat} {row : Array Value} {x : Evv} (h : EckW w g row x wr) (hg : g ≠ w.heap.size) {i : Nat} (h1 : 1 ≤ i) (h8 : i ≤ 8) : EckW w g row ⟨x.n.set 0 i, x.so, x.m, x.c, x.sps⟩ (wr.setCell ⟨w.heap.size, i, none⟩ (.int .i64 0)) :=
  ⟨⟨h.bx.low.setCell (Nat.le_refl _) _, by rw [← evv_set x h1 h8]; exact blk_set h.bx.box i _⟩, blk_set_other hg _ h.row⟩
set_option maxRecDepth 100000 in
set_option maxHeartbeats 6400000 in
theorem echeck_any (x : Evv) (w : World) (hx : x.ok w) : Calls Tryz.prog 14 #[x.val] w fun e w' => e = .returned (.int .i64 (errE x.pl)) ∧ Below w.heap.size w w' := by
  have hB0 := BoxE.new w x
  have hk0 : (w.alloc (.cells x.cells 43 (0, 0))).cell? ⟨w.heap.size, 0, none⟩ = some (.int .i64 x.n.kind) := blk_cell hB0.box 0
  have hc := fields_all hk0
  unfold FldP at hc
  cases hf : fldsOf x.n.kind with
  | none =>
    rw [hf] at hc
    have he : errE x.pl = 130 := errE_no (mayE_none hf)
    obtain ⟨⟨kind, epoch, tick, client, seq, job, attempt, node, how⟩, so, m, c, sps⟩ := x
    replace hB0 := Lib.hid hB0; replace hc := Lib.hid hc; replace hx := Lib.hid hx; replace hf := Lib.hid hf; replace he := Lib.hid he; replace hk0 := Lib.hid hk0
    go_enter Tryz.func14, Tryz.ntmps14
    go_wp2_with fail
    refine hc.out.mono ?_
    rintro e w1 ⟨rfl, hb1⟩
    have hB1 := hB0.out.below hb1
    replace hB1 := Lib.hid hB1; replace hb1 := Lib.hid hb1
    go_wp2
    go_ret
    exact ⟨by rw [he.out]; rfl, hB1.out.low⟩
  | some fs =>
    rw [hf] at hc
    obtain ⟨hfl, hfo⟩ := flds_ok hf
    obtain ⟨n, hn⟩ : ∃ n, n = fs.length := ⟨_, rfl⟩
    unfold FldPost at hc
    simp only [← hn] at hc
    rw [← hn] at hfl
    have hm9 := hx.sps.max
    have hml := hx.sps.len
    obtain ⟨so, m, c, sps, hxe⟩ : ∃ so m c sps, x = ⟨x.n, so, m, c, sps⟩ := ⟨x.so, x.m, x.c, x.sps, rfl⟩
    obtain ⟨E, hE⟩ : ∃ E, E = errE x.pl := ⟨_, rfl⟩
    rw [← hE]
    obtain ⟨row, hrow⟩ : ∃ row, row = (fs.flatMap (fldV w.heap.size)).toArray := ⟨_, rfl⟩
    rw [← hrow] at hc
    have hstart : ∀ w1 g, Below (w.heap.size + 1) (w.alloc (.cells x.cells 43 (0, 0))) w1 → w1.heap[g]? = some (.cells row 93 (0, 0)) → EckW w g row x w1 := fun w1 g hb hr => ⟨hB0.below (by simpa using hb), hr⟩
    obtain ⟨⟨kind, epoch, tick, client, seq, job, attempt, node, how⟩, so', m', c', sps'⟩ := x
    simp only [Evv.mk.injEq, true_and] at hxe
    obtain ⟨rfl, rfl, rfl, rfl⟩ := hxe
    obtain ⟨X, hX⟩ : ∃ X : Evv, X = ⟨⟨kind, epoch, tick, client, seq, job, attempt, node, how⟩, so', m', c', sps'⟩ := ⟨_, rfl⟩
    obtain ⟨N, hN⟩ : ∃ N : Evn, N = ⟨kind, epoch, tick, client, seq, job, attempt, node, how⟩ := ⟨_, rfl⟩
    replace hB0 := Lib.hid hB0; replace hc := Lib.hid hc; replace hx := Lib.hid hx; replace hf := Lib.hid hf; replace hfo := Lib.hid hfo; replace hn := Lib.hid hn; replace hk0 := Lib.hid hk0; replace hE := Lib.hid hE; replace hml := Lib.hid hml; replace hrow := Lib.hid hrow; replace hstart := Lib.hid hstart; replace hX := Lib.hid hX; replace hN := Lib.hid hN
    go_enter Tryz.func14, Tryz.ntmps14
    go_wp2_with fail
    refine hc.out.mono ?_
    rintro e w1 ⟨g, rfl, hgg, hgr, hb1⟩
    have hg2 : g ≠ w.heap.size := by
      have h1 : (w.alloc (.cells (⟨⟨kind, epoch, tick, client, seq, job, attempt, node, how⟩, so', m', c', sps'⟩ : Evv).cells 43 (0, 0))).heap.size = w.heap.size + 1 := by simp
      omega
    have hW1 := hstart.out w1 g (by simpa using hb1) hgr
    rw [← hX.out] at hW1
    replace hgg := Lib.hid hgg; replace hgr := Lib.hid hgr; replace hb1 := Lib.hid hb1; replace hW1 := Lib.hid hW1; replace hg2 := Lib.hid hg2
    go_wp2
    go_loopw [17, 6] (fun iv _ wr => ∃ (k : Nat) (a : Evn), iv = .int .i64 k ∧ k ≤ n ∧ Hid (chkF N fs = chkF a (fs.drop k)) ∧ Hid (a.kind = kind) ∧ Hid (EckW w g row ⟨a, so', m', c', sps'⟩ wr)) (fun iv _ _ => n - (intOf iv).toNat)
    case atStart => exact ⟨0, N, rfl, Nat.zero_le _, rfl, (by rw [hN.out] : N.kind = kind), by rw [hN.out, ← hX.out]; exact hW1.out⟩
    case round =>
      obtain ⟨k, a, rfl, hk, hch, hak, hW⟩ := hrel
      by_cases hkn : k < n
      · have hkn1 : (k : Int) < n := by omega
        have hk0' : (0 : Int) ≤ (k : Int) := by omega
        obtain ⟨f, hf1⟩ : ∃ f, fs[k]? = some f := ⟨_, List.getElem?_eq_getElem (by have := hn.out; omega)⟩
        obtain ⟨q1, q8, _⟩ := hfo.out f (List.mem_of_getElem? hf1)
        obtain ⟨i, lo, hi⟩ := f
        have hrw := hW.out.row
        rw [hrow.out] at hrw
        obtain ⟨z0, z1, z2⟩ := fld_cell hrw hf1
        simp only at z0 z1 z2 q1 q8
        have hst := chkF_step (e := a) hf1
        have hvb := blk_cell hW.out.bx.box i
        rw [evv_get _ q8] at hvb
        obtain ⟨v, hv⟩ : ∃ v, v = a.get i := ⟨_, rfl⟩
        have hvb' : wr.cell? ⟨w.heap.size, i, none⟩ = some (.int .i64 v) := by rw [hv]; exact hvb
        clear hvb
        have hr : inR a (i, lo, hi) = (decide (lo ≤ v) && decide (v ≤ hi)) := by rw [hv]; rfl
        obtain ⟨W6, hW6⟩ : ∃ W6, W6 = wr.alloc (.cells #[.pointer (some ⟨w.heap.size, i, none⟩), .int .i64 lo, .int .i64 hi] 93 (0, 0)) := ⟨_, rfl⟩
        have hb6 : Below wr.heap.size wr W6 := by rw [hW6]; exact (Below.refl _ _).alloc (Nat.le_refl _) _
        have hn6 : W6.heap[wr.heap.size]? = some (.cells #[.pointer (some ⟨w.heap.size, i, none⟩), .int .i64 lo, .int .i64 hi] 93 (0, 0)) := by rw [hW6]; exact blk_new _ _
        have hw6 := hW.out.below hb6
        have c0 : W6.cell? ⟨wr.heap.size, 0, none⟩ = some (.pointer (some ⟨w.heap.size, i, none⟩)) := blk_cell hn6 0
        have c1 : W6.cell? ⟨wr.heap.size, 1, none⟩ = some (.int .i64 lo) := blk_cell hn6 1
        have c2 : W6.cell? ⟨wr.heap.size, 2, none⟩ = some (.int .i64 hi) := blk_cell hn6 2
        have c6 : W6.cell? ⟨w.heap.size, i, none⟩ = some (.int .i64 v) := (below_cell hb6 (blk_lt hW.out.bx.box)).trans hvb'
        have hfz := blk_free hw6.bx.box i
        have hbad : inR a (i, lo, hi) = false → E = 130 := fun hq => by
          rw [hE.out]
          refine errE_no (mayE_bad hf.out ?_)
          show chkF (⟨kind, epoch, tick, client, seq, job, attempt, node, how⟩ : Evn) fs = none
          have h := hch.out
          rw [hN.out] at h
          rw [h, hst, if_neg (by rw [hq]; simp)]
        have hW6' := Lib.hid hW6
        clear hW6
        replace hf1 := Lib.hid hf1; replace hrw := Lib.hid hrw; replace hst := Lib.hid hst; replace hb6 := Lib.hid hb6; replace hn6 := Lib.hid hn6; replace hw6 := Lib.hid hw6; replace hbad := Lib.hid hbad; replace hv := Lib.hid hv
        go_upto_region 7 with fail
        rw [← hW6'.out]
        clear z0 z1 z2 hvb' hW6'
        by_cases g1 : v < lo
        · have d1 : decide (v < lo) = true := decide_eq_true g1
          have hE2 : E = 130 := hbad.out (by rw [hr, decide_eq_false (by omega)]; rfl)
          replace hr := Lib.hid hr; replace hE2 := Lib.hid hE2; replace g1 := Lib.hid g1
          go_wp2
          go_quiet (fail)
          go_wp2
          go_ret
          exact ⟨by rw [hE2.out]; rfl, (hw6.out.bx.low).trans (below_dn _ _ _)⟩
        have d1 : decide (v < lo) = false := decide_eq_false g1
        by_cases g2 : hi < v
        · have d2 : decide (hi < v) = true := decide_eq_true g2
          have hE2 : E = 130 := hbad.out (by rw [hr, decide_eq_true (by omega), decide_eq_false (by omega)]; rfl)
          replace hr := Lib.hid hr; replace hE2 := Lib.hid hE2; replace g1 := Lib.hid g1; replace g2 := Lib.hid g2
          go_wp2
          go_quiet (fail)
          go_wp2
          go_ret
          exact ⟨by rw [hE2.out]; rfl, (hw6.out.bx.low).trans (below_dn _ _ _)⟩
        have d2 : decide (hi < v) = false := decide_eq_false g2
        have hin : inR a (i, lo, hi) = true := by rw [hr, decide_eq_true (by omega), decide_eq_true (by omega)]; rfl
        have hch2 : chkF N fs = chkF (a.set 0 i) (fs.drop (k + 1)) := by rw [hch.out, hst.out, if_pos hin]
        have hak2 : (a.set 0 i).kind = kind := by rw [set_kind, hak.out]
        have hset : ∀ q, EckW w g row ⟨a.set 0 i, so', m', c', sps'⟩ ((W6.drewN q).setCell ⟨w.heap.size, i, none⟩ (.int .i64 0)) := fun q => (hw6.out.below (below_dn _ _ _)).set hg2.out q1 q8
        replace hr := Lib.hid hr; replace hin := Lib.hid hin; replace hch2 := Lib.hid hch2; replace hak2 := Lib.hid hak2; replace hset := Lib.hid hset; replace g1 := Lib.hid g1; replace g2 := Lib.hid g2
        go_wp2
        go_quiet (fail)
        go_wp2
        go_roundw
        case rel => exact ⟨k + 1, a.set 0 i, by go_num, by omega, hch2.out, hak2.out, hset.out _⟩
        case measure => simp [intOf]; omega
      · have hkn1 : ¬ (k : Int) < n := by omega
        have hdr : fs.drop k = [] := List.drop_of_length_le (by have := hn.out; omega)
        have hfin : chkF ⟨kind, epoch, tick, client, seq, job, attempt, node, how⟩ fs = some a := by
          rw [← hN.out, hch.out, hdr]; rfl
        have hmy := mayE_some (e := (⟨⟨kind, epoch, tick, client, seq, job, attempt, node, how⟩, so', m', c', sps'⟩ : Evv).pl) hf.out hfin
        obtain ⟨k2, e2, t2, cl2, s2, j2, a2, n2, h2⟩ := a
        have hak3 : k2 = kind := hak.out
        subst hak3
        have hml2 : (sps'.map Spv.pl).length = m' := by rw [List.length_map, hml.out]
        obtain ⟨K, hK⟩ : ∃ K, K = (decide (k2 = 2) == decide (0 < m')) := ⟨_, rfl⟩
        obtain ⟨L, hL⟩ : ∃ L, L = decide (m' ≤ 8) := ⟨_, rfl⟩
        obtain ⟨A, hA⟩ : ∃ A, A = (sps'.map Spv.pl).all mayS := ⟨_, rfl⟩
        obtain ⟨R, hR⟩ : ∃ R, R = restZ ⟨k2, e2, t2, cl2, s2, j2, a2, n2, h2⟩ := ⟨_, rfl⟩
        have hEe : E = if (K && L && A && R) = true then 0 else 130 := by
          rw [hE.out]
          unfold errE
          rw [hmy, hK, hL, hA, hR, ← hml2]
          rfl
        have y0 : wr.cell? ⟨w.heap.size, 0, none⟩ = some (.int .i64 k2) := blk_cell hW.out.bx.box 0
        have y9 : wr.cell? ⟨w.heap.size, 9, none⟩ = some (.slice so' m' c') := blk_cell hW.out.bx.box 9
        obtain ⟨q, hq⟩ : ∃ q, q = !(K && L) := ⟨_, rfl⟩
        replace hdr := Lib.hid hdr; replace hfin := Lib.hid hfin; replace hmy := Lib.hid hmy; replace hml2 := Lib.hid hml2; replace hK := Lib.hid hK; replace hL := Lib.hid hL; replace hA := Lib.hid hA; replace hR := Lib.hid hR; replace hEe := Lib.hid hEe; replace hq := Lib.hid hq
        go_upto_region 11 with fail
        go_cut [54] from 41 to 55 (fun bv wx => RuB wr q bv wx)
        case first =>
          by_cases g1 : k2 = 2
          · have d1 : (k2 == (2 : Int)) = true := by rw [g1]; rfl
            by_cases g2 : 0 < m'
            · have d2 : decide ((0 : Int) < (m' : Int)) = true := decide_eq_true (by omega)
              have d2' : decide (0 < m') = true := decide_eq_true g2
              by_cases g3 : 8 < m'
              · have d3 : decide ((8 : Int) < (m' : Int)) = true := decide_eq_true (by omega)
                have d3' : decide (8 < m') = true := decide_eq_true g3
                have hqq : q = true := by rw [hq.out, hK.out, hL.out, decide_eq_true g1, d2', decide_eq_false (by omega : ¬ m' ≤ 8)]; rfl
                replace g1 := Lib.hid g1; replace g2 := Lib.hid g2; replace g3 := Lib.hid g3; replace hqq := Lib.hid hqq
                go_wp2
                go_meet
                exact ⟨by rw [hqq.out], rfl⟩
              · have d3 : decide ((8 : Int) < (m' : Int)) = false := decide_eq_false (by omega)
                have d3' : decide (8 < m') = false := decide_eq_false g3
                have hqq : q = false := by rw [hq.out, hK.out, hL.out, decide_eq_true g1, d2', decide_eq_true (by omega : m' ≤ 8)]; rfl
                replace g1 := Lib.hid g1; replace g2 := Lib.hid g2; replace g3 := Lib.hid g3; replace hqq := Lib.hid hqq
                go_wp2
                go_meet
                exact ⟨by rw [hqq.out], rfl⟩
            · have d2 : decide ((0 : Int) < (m' : Int)) = false := decide_eq_false (by omega)
              have d2' : decide (0 < m') = false := decide_eq_false g2
              have hqq : q = true := by rw [hq.out, hK.out, decide_eq_true g1, d2']; rfl
              replace g1 := Lib.hid g1; replace g2 := Lib.hid g2; replace hqq := Lib.hid hqq
              go_wp2
              go_meet
              exact ⟨by rw [hqq.out], rfl⟩
          · have d1 : (k2 == (2 : Int)) = false := beq_eq_false_iff_ne.2 g1
            by_cases g2 : 0 < m'
            · have d2 : decide ((0 : Int) < (m' : Int)) = true := decide_eq_true (by omega)
              have d2' : decide (0 < m') = true := decide_eq_true g2
              have hqq : q = true := by rw [hq.out, hK.out, decide_eq_false g1, d2']; rfl
              replace g1 := Lib.hid g1; replace g2 := Lib.hid g2; replace hqq := Lib.hid hqq
              go_wp2
              go_meet
              exact ⟨by rw [hqq.out], rfl⟩
            · have d2 : decide ((0 : Int) < (m' : Int)) = false := decide_eq_false (by omega)
              have d2' : decide (0 < m') = false := decide_eq_false g2
              have d3 : decide ((8 : Int) < (m' : Int)) = false := decide_eq_false (by omega)
              have d3' : decide (8 < m') = false := decide_eq_false (by omega)
              have hqq : q = false := by rw [hq.out, hK.out, hL.out, decide_eq_false g1, d2', decide_eq_true (by omega : m' ≤ 8)]; rfl
              replace g1 := Lib.hid g1; replace g2 := Lib.hid g2; replace hqq := Lib.hid hqq
              go_wp2
              go_meet
              exact ⟨by rw [hqq.out], rfl⟩
        case rest =>
        obtain ⟨rfl, hw3⟩ := hcut
        subst hw3
        cases q with
        | true =>
          have hE2 : E = 130 := by
            have h := hq.out
            rw [hEe.out]
            revert h
            cases K <;> cases L <;> intro h <;> first | rfl | cases h
          replace hE2 := Lib.hid hE2
          clear hq
          go_wp2
          go_ret
          exact ⟨by rw [hE2.out]; rfl, hW.out.bx.low⟩
        | false =>
        have hKL : K = true ∧ L = true := by
          have h := hq.out
          revert h
          cases K <;> cases L <;> intro h <;> first | exact ⟨rfl, rfl⟩ | cases h
        have hEe2 : E = if (A && R) = true then 0 else 130 := by rw [hEe.out, hKL.1, hKL.2]; rfl
        have hm8 : m' ≤ 8 := by
          have h := hL.out
          rw [hKL.2] at h
          exact of_decide_eq_true h.symm
        clear hq
        replace hKL := Lib.hid hKL; replace hEe2 := Lib.hid hEe2
        go_wp2
        go_loopw [58, 8] (fun iv _ wz => ∃ k : Nat, iv = .int .i64 k ∧ k ≤ m' ∧ Hid (∀ j s, j < k → sps'[j]? = some s → mayS s.pl = true) ∧ Hid (EckW w g row ⟨⟨k2, e2, t2, cl2, s2, j2, a2, n2, h2⟩, so', m', c', sps'⟩ wz)) (fun iv _ _ => m' - (intOf iv).toNat)
        case atStart => exact ⟨0, rfl, Nat.zero_le _, (fun j s h => absurd h (Nat.not_lt_zero j)), hW.out⟩
        case round =>
          rename World => wz
          obtain ⟨j, rfl, hj, hall, hZ⟩ := hrel
          by_cases hjm : j < m'
          · have hjm1 : (j : Int) < m' := by omega
            have hj0 : (0 : Int) ≤ (j : Int) := by omega
            obtain ⟨s, hs⟩ : ∃ s, sps'[j]? = some s := ⟨_, List.getElem?_eq_getElem (by rw [hml.out]; omega)⟩
            have hxz := hx.out.sps.low hZ.out.bx.low
            obtain ⟨b, off, rfl, hbl, hcell, hsok⟩ := hxz.cell j s hs
            obtain ⟨⟨user, part, nodes, ⟨da, db, dc, dd⟩, wall, prio, array, retries, held, after⟩, sso, sn, scp⟩ := s
            have z0 : wz.cell? ⟨b, off + j * 13, none⟩ = some (.string user) := hcell 0 (by omega)
            have z1 : wz.cell? ⟨b, off + j * 13 + 1, none⟩ = some (.string part) := hcell 1 (by omega)
            have z2 : wz.cell? ⟨b, off + j * 13 + 2, none⟩ = some (.int .i64 nodes) := hcell 2 (by omega)
            have z3 : wz.cell? ⟨b, off + j * 13 + 3, none⟩ = some (.int .i64 da) := hcell 3 (by omega)
            have z4 : wz.cell? ⟨b, off + j * 13 + 4, none⟩ = some (.int .i64 db) := hcell 4 (by omega)
            have z5 : wz.cell? ⟨b, off + j * 13 + 5, none⟩ = some (.int .i64 dc) := hcell 5 (by omega)
            have z6 : wz.cell? ⟨b, off + j * 13 + 6, none⟩ = some (.int .i64 dd) := hcell 6 (by omega)
            have z7 : wz.cell? ⟨b, off + j * 13 + 7, none⟩ = some (.int .i64 wall) := hcell 7 (by omega)
            have z8 : wz.cell? ⟨b, off + j * 13 + 8, none⟩ = some (.int .i64 prio) := hcell 8 (by omega)
            have z9 : wz.cell? ⟨b, off + j * 13 + 9, none⟩ = some (.int .i64 array) := hcell 9 (by omega)
            have z10 : wz.cell? ⟨b, off + j * 13 + 10, none⟩ = some (.int .i64 retries) := hcell 10 (by omega)
            have z11 : wz.cell? ⟨b, off + j * 13 + 11, none⟩ = some (.bool held) := hcell 11 (by omega)
            have z12 : wz.cell? ⟨b, off + j * 13 + 12, none⟩ = some (.slice sso sn scp) := hcell 12 (by omega)
            obtain ⟨W6, hW6⟩ : ∃ W6, W6 = wz.alloc (.cells (⟨⟨user, part, nodes, ⟨da, db, dc, dd⟩, wall, prio, array, retries, held, after⟩, sso, sn, scp⟩ : Spv).cells 26 (0, 0)) := ⟨_, rfl⟩
            have hb6 : Below wz.heap.size wz W6 := by rw [hW6]; exact (Below.refl _ _).alloc (Nat.le_refl _) _
            have hn6 : W6.heap[wz.heap.size]? = some (.cells (⟨⟨user, part, nodes, ⟨da, db, dc, dd⟩, wall, prio, array, retries, held, after⟩, sso, sn, scp⟩ : Spv).cells 26 (0, 0)) := by rw [hW6]; exact blk_new _ _
            have x0 : W6.cell? ⟨wz.heap.size, 0, none⟩ = some (.string user) := blk_cell hn6 0
            have x1 : W6.cell? ⟨wz.heap.size, 1, none⟩ = some (.string part) := blk_cell hn6 1
            have x2 : W6.cell? ⟨wz.heap.size, 2, none⟩ = some (.int .i64 nodes) := blk_cell hn6 2
            have x3 : W6.cell? ⟨wz.heap.size, 3, none⟩ = some (.int .i64 da) := blk_cell hn6 3
            have x4 : W6.cell? ⟨wz.heap.size, 4, none⟩ = some (.int .i64 db) := blk_cell hn6 4
            have x5 : W6.cell? ⟨wz.heap.size, 5, none⟩ = some (.int .i64 dc) := blk_cell hn6 5
            have x6 : W6.cell? ⟨wz.heap.size, 6, none⟩ = some (.int .i64 dd) := blk_cell hn6 6
            have x7 : W6.cell? ⟨wz.heap.size, 7, none⟩ = some (.int .i64 wall) := blk_cell hn6 7
            have x8 : W6.cell? ⟨wz.heap.size, 8, none⟩ = some (.int .i64 prio) := blk_cell hn6 8
            have x9 : W6.cell? ⟨wz.heap.size, 9, none⟩ = some (.int .i64 array) := blk_cell hn6 9
            have x10 : W6.cell? ⟨wz.heap.size, 10, none⟩ = some (.int .i64 retries) := blk_cell hn6 10
            have x11 : W6.cell? ⟨wz.heap.size, 11, none⟩ = some (.bool held) := blk_cell hn6 11
            have x12 : W6.cell? ⟨wz.heap.size, 12, none⟩ = some (.slice sso sn scp) := blk_cell hn6 12
            have hZ6 := hZ.out.below hb6
            have hck := check_any ⟨⟨user, part, nodes, ⟨da, db, dc, dd⟩, wall, prio, array, retries, held, after⟩, sso, sn, scp⟩ W6 (hsok.low hb6)
            obtain ⟨er, her⟩ : ∃ er, er = errS (⟨user, part, nodes, ⟨da, db, dc, dd⟩, wall, prio, array, retries, held, after⟩ : Spp) := ⟨_, rfl⟩
            have hck' : Calls Tryz.prog 35 #[(⟨⟨user, part, nodes, ⟨da, db, dc, dd⟩, wall, prio, array, retries, held, after⟩, sso, sn, scp⟩ : Spv).val] W6 fun e w' => e = .returned (.int .i64 er) ∧ Below W6.heap.size W6 w' := by rw [her]; exact hck
            clear hck
            have hW6' := Lib.hid hW6
            clear hW6
            replace hs := Lib.hid hs; replace hxz := Lib.hid hxz; replace hcell := Lib.hid hcell; replace hsok := Lib.hid hsok; replace hb6 := Lib.hid hb6; replace hn6 := Lib.hid hn6; replace hZ6 := Lib.hid hZ6; replace hck' := Lib.hid hck'; replace her := Lib.hid her
            go_upto_region 16 with fail
            rw [← hW6'.out]
            clear z0 z1 z2 z3 z4 z5 z6 z7 z8 z9 z10 z11 z12
            go_wp2_with fail
            refine hck'.out.mono ?_
            rintro e w7 ⟨rfl, hb7⟩
            have hZ7 := hZ6.out.below hb7
            clear x0 x1 x2 x3 x4 x5 x6 x7 x8 x9 x10 x11 x12
            by_cases gm : mayS (⟨user, part, nodes, ⟨da, db, dc, dd⟩, wall, prio, array, retries, held, after⟩ : Spp) = true
            · have he0 : er = 0 := by rw [her.out]; exact if_pos gm
              subst he0
              have d7 : ((0 : Int) != (0 : Int)) = false := rfl
              have hall2 : ∀ i s, i < j + 1 → sps'[i]? = some s → mayS s.pl = true := fun i s hi hsi => by
                by_cases c : i = j
                · subst c
                  rw [hs.out] at hsi
                  rw [← Option.some.inj hsi]
                  exact gm
                · exact hall.out i s (by omega) hsi
              replace hb7 := Lib.hid hb7; replace hZ7 := Lib.hid hZ7; replace gm := Lib.hid gm; replace hall2 := Lib.hid hall2
              go_wp2
              go_roundw
              case rel => exact ⟨j + 1, by go_num, by omega, hall2.out, hZ7.out⟩
              case measure => simp [intOf]; omega
            · have he0 : er = 80 := by rw [her.out]; exact if_neg gm
              subst he0
              have d7 : ((80 : Int) != (0 : Int)) = true := rfl
              have hE2 : E = 130 := by
                have hAf : A = false := by
                  rw [hA.out, Bool.eq_false_iff]
                  intro c
                  rw [List.all_eq_true] at c
                  exact gm (c _ (List.mem_map.2 ⟨_, List.mem_of_getElem? hs.out, rfl⟩))
                rw [hEe2.out, hAf]
                rfl
              replace hb7 := Lib.hid hb7; replace hZ7 := Lib.hid hZ7; replace gm := Lib.hid gm; replace hE2 := Lib.hid hE2
              go_wp2
              go_ret
              exact ⟨by rw [hE2.out]; rfl, hZ7.out.bx.low⟩
          · have hjm1 : ¬ (j : Int) < m' := by omega
            have hAt : A = true := by
              rw [hA.out, List.all_eq_true]
              intro s hs
              obtain ⟨z, hz, rfl⟩ := List.mem_map.1 hs
              obtain ⟨i, hi⟩ := List.mem_iff_getElem?.1 hz
              have hil := (List.getElem?_eq_some_iff.1 hi).1
              exact hall.out i z (by have := hml.out; omega) hi
            have hEe3 : E = if R = true then 0 else 130 := by rw [hEe2.out, hAt]; rfl
            have y1 : wz.cell? ⟨w.heap.size, 1, none⟩ = some (.int .i64 e2) := blk_cell hZ.out.bx.box 1
            have y2 : wz.cell? ⟨w.heap.size, 2, none⟩ = some (.int .i64 t2) := blk_cell hZ.out.bx.box 2
            have y3 : wz.cell? ⟨w.heap.size, 3, none⟩ = some (.int .i64 cl2) := blk_cell hZ.out.bx.box 3
            have y4 : wz.cell? ⟨w.heap.size, 4, none⟩ = some (.int .i64 s2) := blk_cell hZ.out.bx.box 4
            have y5 : wz.cell? ⟨w.heap.size, 5, none⟩ = some (.int .i64 j2) := blk_cell hZ.out.bx.box 5
            have y6 : wz.cell? ⟨w.heap.size, 6, none⟩ = some (.int .i64 a2) := blk_cell hZ.out.bx.box 6
            have y7 : wz.cell? ⟨w.heap.size, 7, none⟩ = some (.int .i64 n2) := blk_cell hZ.out.bx.box 7
            have y8 : wz.cell? ⟨w.heap.size, 8, none⟩ = some (.int .i64 h2) := blk_cell hZ.out.bx.box 8
            replace hAt := Lib.hid hAt; replace hEe3 := Lib.hid hEe3
            clear y0 y9
            by_cases u0 : e2 = 0
            rotate_left
            · have d0 : (e2 != (0 : Int)) = true := by rw [bne_iff_ne]; exact u0
              have hE2 : E = 130 := by rw [hEe3.out, if_neg]; rw [hR.out]; unfold restZ; simp [u0]
              replace u0 := Lib.hid u0; replace hE2 := Lib.hid hE2
              go_wp2
              go_ret
              exact ⟨by rw [hE2.out]; rfl, hZ.out.bx.low⟩
            have d0 : (e2 != (0 : Int)) = false := by rw [u0]; rfl
            by_cases u1 : t2 = 0
            rotate_left
            · have d1 : (t2 != (0 : Int)) = true := by rw [bne_iff_ne]; exact u1
              have hE2 : E = 130 := by rw [hEe3.out, if_neg]; rw [hR.out]; unfold restZ; simp [u1]
              replace u0 := Lib.hid u0; replace u1 := Lib.hid u1; replace hE2 := Lib.hid hE2
              go_wp2
              go_ret
              exact ⟨by rw [hE2.out]; rfl, hZ.out.bx.low⟩
            have d1 : (t2 != (0 : Int)) = false := by rw [u1]; rfl
            by_cases u2 : cl2 = 0
            rotate_left
            · have d2 : (cl2 != (0 : Int)) = true := by rw [bne_iff_ne]; exact u2
              have hE2 : E = 130 := by rw [hEe3.out, if_neg]; rw [hR.out]; unfold restZ; simp [u2]
              replace u0 := Lib.hid u0; replace u1 := Lib.hid u1; replace u2 := Lib.hid u2; replace hE2 := Lib.hid hE2
              go_wp2
              go_ret
              exact ⟨by rw [hE2.out]; rfl, hZ.out.bx.low⟩
            have d2 : (cl2 != (0 : Int)) = false := by rw [u2]; rfl
            by_cases u3 : s2 = 0
            rotate_left
            · have d3 : (s2 != (0 : Int)) = true := by rw [bne_iff_ne]; exact u3
              have hE2 : E = 130 := by rw [hEe3.out, if_neg]; rw [hR.out]; unfold restZ; simp [u3]
              replace u0 := Lib.hid u0; replace u1 := Lib.hid u1; replace u2 := Lib.hid u2; replace u3 := Lib.hid u3; replace hE2 := Lib.hid hE2
              go_wp2
              go_ret
              exact ⟨by rw [hE2.out]; rfl, hZ.out.bx.low⟩
            have d3 : (s2 != (0 : Int)) = false := by rw [u3]; rfl
            by_cases u4 : j2 = 0
            rotate_left
            · have d4 : (j2 != (0 : Int)) = true := by rw [bne_iff_ne]; exact u4
              have hE2 : E = 130 := by rw [hEe3.out, if_neg]; rw [hR.out]; unfold restZ; simp [u4]
              replace u0 := Lib.hid u0; replace u1 := Lib.hid u1; replace u2 := Lib.hid u2; replace u3 := Lib.hid u3; replace u4 := Lib.hid u4; replace hE2 := Lib.hid hE2
              go_wp2
              go_ret
              exact ⟨by rw [hE2.out]; rfl, hZ.out.bx.low⟩
            have d4 : (j2 != (0 : Int)) = false := by rw [u4]; rfl
            by_cases u5 : a2 = 0
            rotate_left
            · have d5 : (a2 != (0 : Int)) = true := by rw [bne_iff_ne]; exact u5
              have hE2 : E = 130 := by rw [hEe3.out, if_neg]; rw [hR.out]; unfold restZ; simp [u5]
              replace u0 := Lib.hid u0; replace u1 := Lib.hid u1; replace u2 := Lib.hid u2; replace u3 := Lib.hid u3; replace u4 := Lib.hid u4; replace u5 := Lib.hid u5; replace hE2 := Lib.hid hE2
              go_wp2
              go_ret
              exact ⟨by rw [hE2.out]; rfl, hZ.out.bx.low⟩
            have d5 : (a2 != (0 : Int)) = false := by rw [u5]; rfl
            by_cases u6 : n2 = 0
            rotate_left
            · have d6 : (n2 != (0 : Int)) = true := by rw [bne_iff_ne]; exact u6
              have hE2 : E = 130 := by rw [hEe3.out, if_neg]; rw [hR.out]; unfold restZ; simp [u6]
              replace u0 := Lib.hid u0; replace u1 := Lib.hid u1; replace u2 := Lib.hid u2; replace u3 := Lib.hid u3; replace u4 := Lib.hid u4; replace u5 := Lib.hid u5; replace u6 := Lib.hid u6; replace hE2 := Lib.hid hE2
              go_wp2
              go_ret
              exact ⟨by rw [hE2.out]; rfl, hZ.out.bx.low⟩
            have d6 : (n2 != (0 : Int)) = false := by rw [u6]; rfl
            by_cases u7 : h2 = 0
            rotate_left
            · have d7 : (h2 != (0 : Int)) = true := by rw [bne_iff_ne]; exact u7
              have hE2 : E = 130 := by rw [hEe3.out, if_neg]; rw [hR.out]; unfold restZ; simp [u7]
              replace u0 := Lib.hid u0; replace u1 := Lib.hid u1; replace u2 := Lib.hid u2; replace u3 := Lib.hid u3; replace u4 := Lib.hid u4; replace u5 := Lib.hid u5; replace u6 := Lib.hid u6; replace u7 := Lib.hid u7; replace hE2 := Lib.hid hE2
              go_wp2
              go_ret
              exact ⟨by rw [hE2.out]; rfl, hZ.out.bx.low⟩
            have d7 : (h2 != (0 : Int)) = false := by rw [u7]; rfl
            have hE2 : E = 0 := by rw [hEe3.out, if_pos]; rw [hR.out]; unfold restZ; simp [u0, u1, u2, u3, u4, u5, u6, u7]
            replace u0 := Lib.hid u0; replace u1 := Lib.hid u1; replace u2 := Lib.hid u2; replace u3 := Lib.hid u3; replace u4 := Lib.hid u4; replace u5 := Lib.hid u5; replace u6 := Lib.hid u6; replace u7 := Lib.hid u7; replace hE2 := Lib.hid hE2
            go_wp2
            go_ret
            exact ⟨by rw [hE2.out]; rfl, hZ.out.bx.low⟩
end Go.Proofs.YteoihdkaoipocaaGreatDoor

/- event.Put 48: an event's bytes. Plain theorems: no condition. -/
namespace Go.Proofs.YteoihdkaoipocaaGreatDoor
open Go.RowKit Go.Maps

def fldsB (e : Evn) (fs : List Fld) : List UInt8 := fs.flatMap fun f => uintB (zz (e.get f.1))
def spB (s : Spp) : List UInt8 := uintB (textS s).length ++ textS s
/-- an event's bytes, if it may be -/
def evB (e : Evp) : List UInt8 := match fldsOf e.n.kind with
  | none => []
  | some fs => uintB (zz e.n.kind) ++ fldsB e.n fs ++ (if e.n.kind = 2 then uintB (zz e.specs.length) else []) ++ e.specs.flatMap spB
def putB (e : Evp) : List UInt8 := if mayE e = true then evB e else []
theorem fldsB_step {e : Evn} {fs : List Fld} {k : Nat} {f : Fld} (h : fs[k]? = some f) : fldsB e (fs.take (k + 1)) = fldsB e (fs.take k) ++ uintB (zz (e.get f.1)) := by
  unfold fldsB
  rw [take_step h, List.flatMap_append]
  simp
theorem spB_step {ss : List Spp} {k : Nat} {s : Spp} (h : ss[k]? = some s) : (ss.take (k + 1)).flatMap spB = (ss.take k).flatMap spB ++ spB s := by
  rw [take_step h, List.flatMap_append]
  simp
theorem mayE_parts {e : Evp} (h : mayE e = true) : ∃ fs, fldsOf e.n.kind = some fs ∧ (e.n.kind = 2 ↔ 0 < e.specs.length) ∧ e.specs.length ≤ 8 ∧ ∀ s, s ∈ e.specs → mayS s = true := by
  unfold mayE at h
  cases hf : fldsOf e.n.kind with
  | none => rw [hf] at h; cases h
  | some fs =>
    rw [hf] at h
    cases hc : chkF e.n fs with
    | none => simp only [hc] at h; cases h
    | some e' =>
      simp only [hc, Bool.and_eq_true, decide_eq_true_eq] at h
      obtain ⟨⟨⟨h1, h2⟩, h3⟩, _⟩ := h
      refine ⟨fs, rfl, ?_, h2, List.all_eq_true.1 h3⟩
      unfold kindS at h1
      rw [beq_iff_eq] at h1
      exact decide_eq_decide.1 h1
theorem flatMap_len {α : Type} (g : α → List UInt8) (m : Nat) : ∀ (xs : List α), (∀ x, x ∈ xs → (g x).length ≤ m) → (xs.flatMap g).length ≤ xs.length * m
  | [], _ => by simp
  | x :: xs, h => by
    have h1 := h x (by simp)
    have h2 := flatMap_len g m xs fun y hy => h y (by simp [hy])
    rw [List.flatMap_cons, List.length_append, List.length_cons, Nat.add_mul]
    omega
theorem fldsB_len {e : Evn} {fs : List Fld} (hr : ∀ i, -9223372036854775808 ≤ e.get i ∧ e.get i ≤ 9223372036854775807) : (fldsB e fs).length ≤ fs.length * 10 :=
  flatMap_len _ 10 fs fun f _ => uintB_ten (zz_lt (hr f.1).1 (hr f.1).2)
theorem spB_len {s : Spp} (h : mayS s = true) : (spB s).length ≤ 1820 := by
  have h1 := textS_len h
  have h2 := uintB_ten (n := (textS s).length) (by omega)
  unfold spB
  rw [List.length_append]
  omega
structure EpW (w : World) (x : Evv) (g : Nat) (row : Array Value) (l : List UInt8) (v : Value) (wr : World) : Prop where
  ck : EckW w g row x wr
  own : OwnB wr w.heap.size v l
theorem EpW.next {w wr w' : World} {x : Evv} {g : Nat} {row : Array Value} {l l' : List UInt8} {v v' : Value} (h : EpW w x g row l v wr) (hb : Below wr.heap.size wr w') (ho : OwnB w' wr.heap.size v' l') : EpW w x g row l' v' w' :=
  ⟨h.ck.below hb, ho.base h.ck.bx.low.size⟩
theorem EpW.low {w wr w' : World} {x : Evv} {g : Nat} {row : Array Value} {l : List UInt8} {v : Value} (h : EpW w x g row l v wr) (hb : Below wr.heap.size wr w') : EpW w x g row l v w' := ⟨h.ck.below hb, h.own.low hb⟩
set_option maxRecDepth 100000 in
set_option maxHeartbeats 6400000 in
theorem eput_any (x : Evv) (so : Option Addr) (n c : Nat) (l : List UInt8) (w : World) (hx : x.ok w) (hb : BytsAt w so n l) (hso : so = none → n = 0 ∧ c = 0) (hn : n ≤ 549755813888) (ht : Tb w) :
    Calls Tryz.prog 15 #[.slice so n c, x.val] w fun e w' => ∃ v, e = .returned v ∧ OwnB w' w.heap.size v (l ++ putB x.pl) ∧ Below w.heap.size w w' := by
  have hB0 := BoxE.new w x
  have hcl := cloneB_any so n c l _ (hb.low hB0.low) hso (by omega)
  have hln := hb.len
  obtain ⟨E, hE⟩ : ∃ E, E = errE x.pl := ⟨_, rfl⟩
  have hck : ∀ W, BoxE w x W → Calls Tryz.prog 14 #[x.val] W fun e w' => e = .returned (.int .i64 E) ∧ Below W.heap.size W w' := fun W h => by rw [hE]; exact echeck_any x W (h.ok hx)
  have hfl : ∀ W, BoxE w x W → Calls Tryz.prog 44 #[.pointer (some ⟨w.heap.size, 0, none⟩)] W (FldP x.n.kind w.heap.size W) := fun W h => fields_all (blk_cell h.box 0)
  obtain ⟨⟨kind, epoch, tick, client, seq, job, attempt, node, how⟩, so', m', c', sps'⟩ := x
  obtain ⟨X, hX⟩ : ∃ X : Evv, X = ⟨⟨kind, epoch, tick, client, seq, job, attempt, node, how⟩, so', m', c', sps'⟩ := ⟨_, rfl⟩
  replace hB0 := Lib.hid hB0; replace hcl := Lib.hid hcl; replace hx := Lib.hid hx; replace hb := Lib.hid hb; replace hso := Lib.hid hso; replace hE := Lib.hid hE; replace hck := Lib.hid hck; replace hfl := Lib.hid hfl; replace ht := Lib.hid ht; replace hX := Lib.hid hX; replace hln := Lib.hid hln
  go_enter Tryz.func15, Tryz.ntmps15
  go_wp2_with fail
  refine hcl.out.mono ?_
  rintro e w1 ⟨v1, rfl, hO1, hb1⟩
  have hB1 := hB0.out.below hb1
  have y0 : w1.cell? ⟨w.heap.size, 0, none⟩ = some (.int .i64 kind) := blk_cell hB1.box 0
  have y1 : w1.cell? ⟨w.heap.size, 1, none⟩ = some (.int .i64 epoch) := blk_cell hB1.box 1
  have y2 : w1.cell? ⟨w.heap.size, 2, none⟩ = some (.int .i64 tick) := blk_cell hB1.box 2
  have y3 : w1.cell? ⟨w.heap.size, 3, none⟩ = some (.int .i64 client) := blk_cell hB1.box 3
  have y4 : w1.cell? ⟨w.heap.size, 4, none⟩ = some (.int .i64 seq) := blk_cell hB1.box 4
  have y5 : w1.cell? ⟨w.heap.size, 5, none⟩ = some (.int .i64 job) := blk_cell hB1.box 5
  have y6 : w1.cell? ⟨w.heap.size, 6, none⟩ = some (.int .i64 attempt) := blk_cell hB1.box 6
  have y7 : w1.cell? ⟨w.heap.size, 7, none⟩ = some (.int .i64 node) := blk_cell hB1.box 7
  have y8 : w1.cell? ⟨w.heap.size, 8, none⟩ = some (.int .i64 how) := blk_cell hB1.box 8
  have y9 : w1.cell? ⟨w.heap.size, 9, none⟩ = some (.slice so' m' c') := blk_cell hB1.box 9
  replace hO1 := Lib.hid hO1; replace hb1 := Lib.hid hb1; replace hB1 := Lib.hid hB1
  go_wp2_with fail
  refine (hck.out _ hB1.out).mono ?_
  rintro e w2 ⟨rfl, hb2⟩
  have hB2 := hB1.out.below hb2
  have hO2 := hO1.out.low hb2
  clear y0 y1 y2 y3 y4 y5 y6 y7 y8 y9
  by_cases hm : mayE X.pl = true
  rotate_left
  · have he : E = 130 := by rw [hE.out, ← hX.out]; exact if_neg hm
    have hp : putB X.pl = [] := if_neg hm
    subst he
    have d : ((130 : Int) != (0 : Int)) = true := rfl
    replace hb2 := Lib.hid hb2; replace hB2 := Lib.hid hB2; replace hO2 := Lib.hid hO2; replace hm := Lib.hid hm; replace hp := Lib.hid hp
    go_wp2
    go_ret
    exact ⟨v1, rfl, by rw [← hX.out, hp.out, List.append_nil]; exact hO2.out.base (by have := hB0.out.low.size; omega), hB2.out.low⟩
  have he : E = 0 := by rw [hE.out, ← hX.out]; exact if_pos hm
  subst he
  have d : ((0 : Int) != (0 : Int)) = false := rfl
  obtain ⟨fs, hf, hk2, hs8, hall⟩ := mayE_parts hm
  obtain ⟨hf4, hfo⟩ := flds_ok hf
  have hpu : putB X.pl = uintB (zz kind) ++ fldsB X.n fs ++ (if kind = 2 then uintB (zz m') else []) ++ (sps'.map Spv.pl).flatMap spB := by
    have hml := hx.out.sps.len
    have e1 : putB X.pl = evB X.pl := if_pos hm
    rw [e1]
    unfold evB
    rw [hf]
    have e2 : X.pl.specs.length = m' := by rw [hX.out]; show (sps'.map Spv.pl).length = m'; rw [List.length_map]; exact hml
    show uintB (zz X.pl.n.kind) ++ fldsB X.pl.n fs ++ (if X.pl.n.kind = 2 then uintB (zz (X.pl.specs.length : Nat)) else []) ++ X.pl.specs.flatMap spB = _
    rw [e2, hX.out]
    rfl
  have hm8 : m' ≤ 8 := by
    have hml := hx.out.sps.len
    have e2 : X.pl.specs.length = m' := by rw [hX.out]; show (sps'.map Spv.pl).length = m'; rw [List.length_map]; exact hml
    omega
  have hkm : kind = 2 ↔ 0 < m' := by
    have hml := hx.out.sps.len
    have e2 : X.pl.specs.length = m' := by rw [hX.out]; show (sps'.map Spv.pl).length = m'; rw [List.length_map]; exact hml
    have e3 : X.pl.n.kind = kind := by rw [hX.out]; rfl
    rw [e2, e3] at hk2
    exact hk2
  have hall2 : ∀ s, s ∈ sps' → mayS s.pl = true := fun s hs => hall s.pl (by rw [hX.out]; exact List.mem_map.2 ⟨s, hs, rfl⟩)
  have hfk : fldsOf kind = some fs := by rw [hX.out] at hf; exact hf
  have hrng := hx.out.rng
  have hkr : -9223372036854775808 ≤ kind ∧ kind ≤ 9223372036854775807 := hrng 0
  obtain ⟨o1, c1, rfl, hy1⟩ := hO2.form
  have hci := cint_any o1 l.length c1 l kind w2 hkr.1 hkr.2 hy1 (by rw [hln.out]; omega)
  obtain ⟨L0, hL0⟩ : ∃ L0, L0 = l.length := ⟨_, rfl⟩
  rw [← hL0] at hci
  rw [← hL0]
  have y0 : w2.cell? ⟨w.heap.size, 0, none⟩ = some (.int .i64 kind) := blk_cell hB2.box 0
  have y1 : w2.cell? ⟨w.heap.size, 1, none⟩ = some (.int .i64 epoch) := blk_cell hB2.box 1
  have y2 : w2.cell? ⟨w.heap.size, 2, none⟩ = some (.int .i64 tick) := blk_cell hB2.box 2
  have y3 : w2.cell? ⟨w.heap.size, 3, none⟩ = some (.int .i64 client) := blk_cell hB2.box 3
  have y4 : w2.cell? ⟨w.heap.size, 4, none⟩ = some (.int .i64 seq) := blk_cell hB2.box 4
  have y5 : w2.cell? ⟨w.heap.size, 5, none⟩ = some (.int .i64 job) := blk_cell hB2.box 5
  have y6 : w2.cell? ⟨w.heap.size, 6, none⟩ = some (.int .i64 attempt) := blk_cell hB2.box 6
  have y7 : w2.cell? ⟨w.heap.size, 7, none⟩ = some (.int .i64 node) := blk_cell hB2.box 7
  have y8 : w2.cell? ⟨w.heap.size, 8, none⟩ = some (.int .i64 how) := blk_cell hB2.box 8
  have y9 : w2.cell? ⟨w.heap.size, 9, none⟩ = some (.slice so' m' c') := blk_cell hB2.box 9
  replace hb2 := Lib.hid hb2; replace hB2 := Lib.hid hB2; replace hO2 := Lib.hid hO2; replace hm := Lib.hid hm; replace hf := Lib.hid hf; replace hk2 := Lib.hid hk2; replace hs8 := Lib.hid hs8; replace hall := Lib.hid hall; replace hf4 := Lib.hid hf4; replace hfo := Lib.hid hfo; replace hpu := Lib.hid hpu; replace hkm := Lib.hid hkm; replace hall2 := Lib.hid hall2; replace hfk := Lib.hid hfk; replace hrng := Lib.hid hrng; replace hkr := Lib.hid hkr; replace hy1 := Lib.hid hy1; replace hci := Lib.hid hci; replace hL0 := Lib.hid hL0
  go_wp2_with fail
  refine hci.out.mono ?_
  rintro e w3 ⟨v3, rfl, hO3, hb3⟩
  have hB3 := hB2.out.below hb3
  clear y0 y1 y2 y3 y4 y5 y6 y7 y8 y9
  have hO3' : OwnB w3 w.heap.size v3 (l ++ uintB (zz kind)) := hO3.base hB2.out.low.size
  have hfc := hfl.out _ hB3
  unfold FldP at hfc
  simp only [hfk.out] at hfc
  replace hb3 := Lib.hid hb3; replace hB3 := Lib.hid hB3; replace hO3 := Lib.hid hO3; replace hO3' := Lib.hid hO3'; replace hfc := Lib.hid hfc
  go_wp2_with fail
  refine hfc.out.mono ?_
  rintro e w4 ⟨g, rfl, hgg, hgr, hb4⟩
  obtain ⟨row, hrow⟩ : ∃ row, row = (fs.flatMap (fldV w.heap.size)).toArray := ⟨_, rfl⟩
  rw [← hrow] at hgr
  have hB4 := hB3.out.below hb4
  have hP4 : EpW w X g row (l ++ uintB (zz kind)) v3 w4 := ⟨⟨by rw [hX.out]; exact hB4, hgr⟩, hO3'.out.low hb4⟩
  obtain ⟨F, hF⟩ : ∃ F, F = fs.length := ⟨_, rfl⟩
  rw [← hF]
  have hF4 : F ≤ 4 := by rw [hF]; exact hf4.out
  replace hgg := Lib.hid hgg; replace hrow := Lib.hid hrow; replace hgr := Lib.hid hgr; replace hb4 := Lib.hid hb4; replace hB4 := Lib.hid hB4; replace hP4 := Lib.hid hP4; replace hF := Lib.hid hF
  have hXn : X.n = ⟨kind, epoch, tick, client, seq, job, attempt, node, how⟩ := by rw [hX.out]
  have hlen1 : ∀ k, (l ++ uintB (zz kind) ++ fldsB X.n (fs.take k)).length ≤ L0 + 50 := fun k => by
    have h1 := uintB_ten (zz_lt hkr.out.1 hkr.out.2)
    have h2 := fldsB_len (fs := fs.take k) hrng.out
    have h3 : (fs.take k).length ≤ 4 := Nat.le_trans (List.length_take_le' _ _) (by have := hF.out; omega)
    rw [List.length_append, List.length_append, ← hL0.out]
    have h4 : (fldsB X.n (fs.take k)).length ≤ 40 := by
      rw [hXn]
      omega
    omega
  have hLn : L0 = n := by rw [hL0.out, hln.out]
  replace hXn := Lib.hid hXn; replace hlen1 := Lib.hid hlen1
  go_wp2
  go_loopw [0, 8, 27] (fun bv _ iv wr => ∃ k : Nat, iv = .int .i64 k ∧ k ≤ F ∧ Hid (EpW w X g row (l ++ uintB (zz kind) ++ fldsB X.n (fs.take k)) bv wr)) (fun _ _ iv _ => F - (intOf iv).toNat)
  case atStart => exact ⟨0, rfl, Nat.zero_le _, (by
    have e : l ++ uintB (zz kind) ++ fldsB X.n (fs.take 0) = l ++ uintB (zz kind) := by rw [List.take_zero]; exact List.append_nil _
    rw [e]
    exact hP4.out)⟩
  case round =>
    obtain ⟨k, rfl, hk, hP⟩ := hrel
    obtain ⟨bs, hbs⟩ : ∃ bs, bs = l ++ uintB (zz kind) ++ fldsB X.n (fs.take k) := ⟨_, rfl⟩
    have hbl : bs.length ≤ L0 + 50 := by rw [hbs]; exact hlen1.out k
    have hPb := hP.out
    rw [← hbs] at hPb
    obtain ⟨M, hM⟩ : ∃ M, M = bs.length := ⟨_, rfl⟩
    by_cases hkF : k < F
    · have hkF1 : (k : Int) < F := by omega
      have hk0' : (0 : Int) ≤ (k : Int) := by omega
      obtain ⟨f, hf1⟩ : ∃ f, fs[k]? = some f := ⟨_, List.getElem?_eq_getElem (by have := hF.out; omega)⟩
      obtain ⟨q1, q8, _⟩ := hfo.out f (List.mem_of_getElem? hf1)
      have hstp := fldsB_step (e := X.n) hf1
      obtain ⟨i, lo, hi⟩ := f
      have hrw := hPb.ck.row
      rw [hrow.out] at hrw
      obtain ⟨z0, z1, z2⟩ := fld_cell hrw hf1
      simp only at z0 z1 z2 q1 q8 hstp
      have hvb := blk_cell hPb.ck.bx.box i
      rw [evv_get _ q8] at hvb
      obtain ⟨v, hv⟩ : ∃ v, v = X.n.get i := ⟨_, rfl⟩
      rw [← hv] at hvb hstp
      have hvr : -9223372036854775808 ≤ v ∧ v ≤ 9223372036854775807 := by
        rw [hv, hXn.out]
        exact hrng.out i
      obtain ⟨W6, hW6⟩ : ∃ W6, W6 = wr.alloc (.cells #[.pointer (some ⟨w.heap.size, i, none⟩), .int .i64 lo, .int .i64 hi] 93 (0, 0)) := ⟨_, rfl⟩
      have hb6 : Below wr.heap.size wr W6 := by rw [hW6]; exact (Below.refl _ _).alloc (Nat.le_refl _) _
      have hn6 : W6.heap[wr.heap.size]? = some (.cells #[.pointer (some ⟨w.heap.size, i, none⟩), .int .i64 lo, .int .i64 hi] 93 (0, 0)) := by rw [hW6]; exact blk_new _ _
      have hP6 := hPb.low hb6
      have c0 : W6.cell? ⟨wr.heap.size, 0, none⟩ = some (.pointer (some ⟨w.heap.size, i, none⟩)) := blk_cell hn6 0
      have c6 : W6.cell? ⟨w.heap.size, i, none⟩ = some (.int .i64 v) := (below_cell hb6 (blk_lt hPb.ck.bx.box)).trans hvb
      obtain ⟨o2, c2, rfl, hy2⟩ := hP6.own.form
      rw [← hM] at hy2
      rw [← hM]
      have hci2 := cint_any o2 M c2 bs v W6 hvr.1 hvr.2 hy2 (by omega)
      have hbs2 : bs ++ uintB (zz v) = l ++ uintB (zz kind) ++ fldsB X.n (fs.take (k + 1)) := by rw [hstp, hbs, List.append_assoc]
      have hW6' := Lib.hid hW6
      clear hW6 hvb
      replace hbs := Lib.hid hbs; replace hbl := Lib.hid hbl; replace hPb := Lib.hid hPb; replace hM := Lib.hid hM; replace hf1 := Lib.hid hf1; replace hstp := Lib.hid hstp; replace hrw := Lib.hid hrw; replace hv := Lib.hid hv; replace hvr := Lib.hid hvr; replace hb6 := Lib.hid hb6; replace hn6 := Lib.hid hn6; replace hP6 := Lib.hid hP6; replace hy2 := Lib.hid hy2; replace hci2 := Lib.hid hci2; replace hbs2 := Lib.hid hbs2
      go_upto_region 9 with fail
      rw [← hW6'.out]
      clear z0 z1 z2 hW6'
      go_wp2_with fail
      refine hci2.out.mono ?_
      rintro e w7 ⟨v7, rfl, hO7, hb7⟩
      have hP7 := hP6.out.next hb7 hO7
      rw [hbs2.out] at hP7
      clear c0 c6
      replace hO7 := Lib.hid hO7; replace hb7 := Lib.hid hb7; replace hP7 := Lib.hid hP7
      go_wp2
      go_roundw
      case rel => exact ⟨k + 1, by go_num, by omega, hP7.out⟩
      case measure => simp [intOf]; omega
    · have hkF1 : ¬ (k : Int) < F := by omega
      have htk : fs.take k = fs := List.take_of_length_le (by have := hF.out; omega)
      rw [htk] at hbs
      obtain ⟨o2, c2, rfl, hy2⟩ := hPb.own.form
      rw [← hM] at hy2
      rw [← hM]
      have y0 : wr.cell? ⟨w.heap.size, 0, none⟩ = some (.int .i64 kind) := by
        have h := blk_cell hPb.ck.bx.box 0
        rw [hX.out] at h
        exact h
      have y9 : wr.cell? ⟨w.heap.size, 9, none⟩ = some (.slice so' m' c') := by
        have h := blk_cell hPb.ck.bx.box 9
        rw [hX.out] at h
        exact h
      obtain ⟨B2, hB2'⟩ : ∃ B2, B2 = bs ++ (if kind = 2 then uintB (zz m') else []) := ⟨_, rfl⟩
      have hB2l : B2.length ≤ L0 + 60 := by
        rw [hB2', List.length_append]
        split
        · have := uintB_ten (n := zz (m' : Int)) (zz_lt (by omega) (by omega))
          omega
        · simp; omega
      have hci2 := cint_any o2 M c2 bs (m' : Int) wr (by omega) (by omega) hy2 (by omega)
      have hPo : EpW w X g row bs (.slice o2 M c2) wr := hM ▸ hPb
      replace htk := Lib.hid htk; replace hbs := Lib.hid hbs; replace hbl := Lib.hid hbl; replace hPb := Lib.hid hPb; replace hM := Lib.hid hM; replace hy2 := Lib.hid hy2; replace hB2' := Lib.hid hB2'; replace hB2l := Lib.hid hB2l; replace hci2 := Lib.hid hci2; replace hPo := Lib.hid hPo
      go_upto_if 40 with fail
      go_cut [0] (fun bv wx => EpW w X g row B2 bv wx)
      case first =>
        by_cases g1 : kind = 2
        · have d1 : (kind == (2 : Int)) = true := by rw [g1]; rfl
          have hB3' : B2 = bs ++ uintB (zz m') := by rw [hB2'.out, if_pos g1]
          replace g1 := Lib.hid g1; replace hB3' := Lib.hid hB3'
          go_wp2_with fail
          refine hci2.out.mono ?_
          rintro e w7 ⟨v7, rfl, hO7, hb7⟩
          have hP7 := hPo.out.next hb7 hO7
          rw [← hB3'.out] at hP7
          replace hO7 := Lib.hid hO7; replace hb7 := Lib.hid hb7; replace hP7 := Lib.hid hP7
          go_wp2
          go_meet
          case rel => exact hP7.out
        · have d1 : (kind == (2 : Int)) = false := beq_eq_false_iff_ne.2 g1
          have hB3' : B2 = bs := by rw [hB2'.out, if_neg g1, List.append_nil]
          have hP7 : EpW w X g row B2 (.slice o2 M c2) wr := by rw [hB3']; exact hPo.out
          replace g1 := Lib.hid g1; replace hB3' := Lib.hid hB3'; replace hP7 := Lib.hid hP7
          go_wp2
          go_meet
          case rel => exact hP7.out
      case rest =>
      clear y0 y9
      have hcut' := Lib.hid hcut
      clear hcut
      have y9 : wc.cell? ⟨w.heap.size, 9, none⟩ = some (.slice so' m' c') := by
        have h := blk_cell hcut'.out.ck.bx.box 9
        rw [hX.out] at h
        exact h
      have hsl : ∀ j, ((sps'.map Spv.pl).take j).length ≤ 8 ∧ ((((sps'.map Spv.pl).take j).flatMap spB)).length ≤ 8 * 1820 := fun j => by
        have h1 : ((sps'.map Spv.pl).take j).length ≤ 8 := by
          refine Nat.le_trans (List.length_take_le' _ _) ?_
          rw [List.length_map]
          have := hx.out.sps.len
          exact Nat.le_trans (Nat.le_of_eq this) hm8
        refine ⟨h1, Nat.le_trans (flatMap_len spB 1820 _ fun s hs => ?_) (Nat.mul_le_mul h1 (Nat.le_refl _))⟩
        obtain ⟨z, hz, rfl⟩ := List.mem_map.1 (List.mem_of_mem_take hs)
        exact spB_len (hall2.out z hz)
      replace hsl := Lib.hid hsl
      go_wp2
      go_loopw [0, 10, 49] (fun bv _ iv wz => ∃ k : Nat, iv = .int .i64 k ∧ k ≤ m' ∧ Hid (EpW w X g row (B2 ++ ((sps'.map Spv.pl).take k).flatMap spB) bv wz)) (fun _ _ iv _ => m' - (intOf iv).toNat)
      case atStart => exact ⟨0, rfl, Nat.zero_le _, (by
        have e : B2 ++ ((sps'.map Spv.pl).take 0).flatMap spB = B2 := by rw [List.take_zero]; exact List.append_nil _
        rw [e]
        exact hcut'.out)⟩
      case round =>
        rename World => wz
        obtain ⟨j, rfl, hj, hZ⟩ := hrel
        have hml := hx.out.sps.len
        by_cases hjm : j < m'
        · have hjm1 : (j : Int) < m' := by omega
          have hj0 : (0 : Int) ≤ (j : Int) := by omega
          obtain ⟨s, hs⟩ : ∃ s, sps'[j]? = some s := ⟨_, List.getElem?_eq_getElem (by have h : sps'.length = m' := hml; omega)⟩
          have hxz : SpsAt wz so' m' sps' := hx.out.sps.low hZ.out.ck.bx.low
          obtain ⟨b, off, rfl, hbl3, hcell, hsok⟩ := hxz.cell j s hs
          have hsm := hall2.out s (List.mem_of_getElem? hs)
          have hstp := spB_step (ss := sps'.map Spv.pl) (k := j) (s := s.pl) (by rw [List.getElem?_map, hs]; rfl)
          have htl := textS_len hsm
          obtain ⟨T, hT⟩ : ∃ T, T = ofL (textS s.pl) := ⟨_, rfl⟩
          have hTl : T.size ≤ 1810 := by rw [hT, ofL_size]; exact htl
          have hTd : uintB T.size ++ T.data.toList = spB s.pl := by
            rw [hT, ofL_size]
            unfold spB
            rw [ofL_toL]
          obtain ⟨⟨user, part, nodes, ⟨da, db, dc, dd⟩, wall, prio, array, retries, held, after⟩, sso, sn, scp⟩ := s
          have z0 : wz.cell? ⟨b, off + j * 13, none⟩ = some (.string user) := hcell 0 (by omega)
          have z1 : wz.cell? ⟨b, off + j * 13 + 1, none⟩ = some (.string part) := hcell 1 (by omega)
          have z2 : wz.cell? ⟨b, off + j * 13 + 2, none⟩ = some (.int .i64 nodes) := hcell 2 (by omega)
          have z3 : wz.cell? ⟨b, off + j * 13 + 3, none⟩ = some (.int .i64 da) := hcell 3 (by omega)
          have z4 : wz.cell? ⟨b, off + j * 13 + 4, none⟩ = some (.int .i64 db) := hcell 4 (by omega)
          have z5 : wz.cell? ⟨b, off + j * 13 + 5, none⟩ = some (.int .i64 dc) := hcell 5 (by omega)
          have z6 : wz.cell? ⟨b, off + j * 13 + 6, none⟩ = some (.int .i64 dd) := hcell 6 (by omega)
          have z7 : wz.cell? ⟨b, off + j * 13 + 7, none⟩ = some (.int .i64 wall) := hcell 7 (by omega)
          have z8 : wz.cell? ⟨b, off + j * 13 + 8, none⟩ = some (.int .i64 prio) := hcell 8 (by omega)
          have z9 : wz.cell? ⟨b, off + j * 13 + 9, none⟩ = some (.int .i64 array) := hcell 9 (by omega)
          have z10 : wz.cell? ⟨b, off + j * 13 + 10, none⟩ = some (.int .i64 retries) := hcell 10 (by omega)
          have z11 : wz.cell? ⟨b, off + j * 13 + 11, none⟩ = some (.bool held) := hcell 11 (by omega)
          have z12 : wz.cell? ⟨b, off + j * 13 + 12, none⟩ = some (.slice sso sn scp) := hcell 12 (by omega)
          obtain ⟨W6, hW6⟩ : ∃ W6, W6 = wz.alloc (.cells (⟨⟨user, part, nodes, ⟨da, db, dc, dd⟩, wall, prio, array, retries, held, after⟩, sso, sn, scp⟩ : Spv).cells 26 (0, 0)) := ⟨_, rfl⟩
          have hb6 : Below wz.heap.size wz W6 := by rw [hW6]; exact (Below.refl _ _).alloc (Nat.le_refl _) _
          have hn6 : W6.heap[wz.heap.size]? = some (.cells (⟨⟨user, part, nodes, ⟨da, db, dc, dd⟩, wall, prio, array, retries, held, after⟩, sso, sn, scp⟩ : Spv).cells 26 (0, 0)) := by rw [hW6]; exact blk_new _ _
          have x0 : W6.cell? ⟨wz.heap.size, 0, none⟩ = some (.string user) := blk_cell hn6 0
          have x1 : W6.cell? ⟨wz.heap.size, 1, none⟩ = some (.string part) := blk_cell hn6 1
          have x2 : W6.cell? ⟨wz.heap.size, 2, none⟩ = some (.int .i64 nodes) := blk_cell hn6 2
          have x3 : W6.cell? ⟨wz.heap.size, 3, none⟩ = some (.int .i64 da) := blk_cell hn6 3
          have x4 : W6.cell? ⟨wz.heap.size, 4, none⟩ = some (.int .i64 db) := blk_cell hn6 4
          have x5 : W6.cell? ⟨wz.heap.size, 5, none⟩ = some (.int .i64 dc) := blk_cell hn6 5
          have x6 : W6.cell? ⟨wz.heap.size, 6, none⟩ = some (.int .i64 dd) := blk_cell hn6 6
          have x7 : W6.cell? ⟨wz.heap.size, 7, none⟩ = some (.int .i64 wall) := blk_cell hn6 7
          have x8 : W6.cell? ⟨wz.heap.size, 8, none⟩ = some (.int .i64 prio) := blk_cell hn6 8
          have x9 : W6.cell? ⟨wz.heap.size, 9, none⟩ = some (.int .i64 array) := blk_cell hn6 9
          have x10 : W6.cell? ⟨wz.heap.size, 10, none⟩ = some (.int .i64 retries) := blk_cell hn6 10
          have x11 : W6.cell? ⟨wz.heap.size, 11, none⟩ = some (.bool held) := blk_cell hn6 11
          have x12 : W6.cell? ⟨wz.heap.size, 12, none⟩ = some (.slice sso sn scp) := blk_cell hn6 12
          have hZ6 := hZ.out.low hb6
          have htx : Calls Tryz.prog 26 #[(⟨⟨user, part, nodes, ⟨da, db, dc, dd⟩, wall, prio, array, retries, held, after⟩, sso, sn, scp⟩ : Spv).val] W6 fun e w' => e = .returned (.string T) ∧ Below W6.heap.size W6 w' := by
            rw [hT]
            exact stext_any ⟨⟨user, part, nodes, ⟨da, db, dc, dd⟩, wall, prio, array, retries, held, after⟩, sso, sn, scp⟩ W6 (hsok.low hb6) (ht.out.low hZ6.ck.bx.low)
          have hW6' := Lib.hid hW6
          clear hW6
          replace hml := Lib.hid hml; replace hs := Lib.hid hs; replace hxz := Lib.hid hxz; replace hcell := Lib.hid hcell; replace hsok := Lib.hid hsok; replace hsm := Lib.hid hsm; replace hstp := Lib.hid hstp; replace htl := Lib.hid htl; replace hT := Lib.hid hT; replace hTl := Lib.hid hTl; replace hTd := Lib.hid hTd; replace hb6 := Lib.hid hb6; replace hn6 := Lib.hid hn6; replace hZ6 := Lib.hid hZ6; replace htx := Lib.hid htx
          go_upto_region 16 with fail
          rw [← hW6'.out]
          clear z0 z1 z2 z3 z4 z5 z6 z7 z8 z9 z10 z11 z12 hW6'
          go_wp2_with fail
          refine htx.out.mono ?_
          rintro e w7 ⟨rfl, hb7⟩
          have hZ7 := hZ6.out.low hb7
          obtain ⟨o3, c3, rfl, hy3⟩ := hZ7.own.form
          obtain ⟨bz, hbz⟩ : ∃ bz, bz = B2 ++ ((sps'.map Spv.pl).take j).flatMap spB := ⟨_, rfl⟩
          rw [← hbz] at hy3 hZ7
          rw [← hbz]
          obtain ⟨M3, hM3⟩ : ∃ M3, M3 = bz.length := ⟨_, rfl⟩
          have hbzl : M3 ≤ L0 + 60 + 8 * 1820 := by
            rw [hM3, hbz, List.length_append]
            have h1 := (hsl.out j).2
            have h2 := hB2l.out
            omega
          rw [← hM3] at hy3 hZ7
          rw [← hM3]
          have hct := ctext_any o3 M3 c3 bz T w7 (by have := hTl.out; omega) hy3 (by omega)
          have hbz2 : bz ++ uintB T.size ++ T.data.toList = B2 ++ ((sps'.map Spv.pl).take (j + 1)).flatMap spB := by
            rw [hstp.out, List.append_assoc, hTd.out, hbz, List.append_assoc]
          clear x0 x1 x2 x3 x4 x5 x6 x7 x8 x9 x10 x11 x12
          replace hb7 := Lib.hid hb7; replace hZ7 := Lib.hid hZ7; replace hy3 := Lib.hid hy3; replace hbz := Lib.hid hbz; replace hM3 := Lib.hid hM3; replace hct := Lib.hid hct; replace hbz2 := Lib.hid hbz2
          go_wp2_with fail
          refine hct.out.mono ?_
          rintro e w8 ⟨v8, rfl, hO8, hb8⟩
          have hZ8 := hZ7.out.next hb8 hO8
          rw [hbz2.out] at hZ8
          replace hO8 := Lib.hid hO8; replace hb8 := Lib.hid hb8; replace hZ8 := Lib.hid hZ8
          go_wp2
          go_roundw
          case rel => exact ⟨j + 1, by go_num, by omega, hZ8.out⟩
          case measure => simp [intOf]; omega
        · have hjm1 : ¬ (j : Int) < m' := by omega
          have htk3 : (sps'.map Spv.pl).take j = sps'.map Spv.pl := List.take_of_length_le (by rw [List.length_map]; have h : sps'.length = m' := hml; omega)
          have hfin : B2 ++ ((sps'.map Spv.pl).take j).flatMap spB = l ++ putB X.pl := by
            rw [htk3, hpu.out, hB2'.out, hbs.out]
            simp only [List.append_assoc]
          have hZf := hZ.out.own
          rw [hfin] at hZf
          replace hml := Lib.hid hml; replace htk3 := Lib.hid htk3; replace hfin := Lib.hid hfin; replace hZf := Lib.hid hZf
          go_wp2
          go_ret
          exact ⟨_, rfl, by rw [← hX.out]; exact hZf.out, hZ.out.ck.bx.low⟩
end Go.Proofs.YteoihdkaoipocaaGreatDoor

/- The document's events: within 43, Client 18, May 13. Plain theorems: no condition. -/
namespace Go.Proofs.YteoihdkaoipocaaGreatDoor
open Go.RowKit Go.Maps

theorem within13 (n lo hi : Int) (w : World) : Calls Tryz.prog 43 #[.int .i64 n, .int .i64 lo, .int .i64 hi] w fun e w' => e = .returned (.bool (betw n lo hi)) ∧ w' = w := by
  by_cases a : lo ≤ n
  · have d : decide (lo ≤ n) = true := decide_eq_true a
    by_cases b : n ≤ hi
    · have d2 : decide (n ≤ hi) = true := decide_eq_true b
      have hz : betw n lo hi = true := betw_iff.2 ⟨a, b⟩
      replace a := Lib.hid a; replace b := Lib.hid b; replace hz := Lib.hid hz
      go_enter Tryz.func43, Tryz.ntmps43
      go_wp2
      go_ret
      exact ⟨by rw [hz.out]; rfl, rfl⟩
    · have d2 : decide (n ≤ hi) = false := decide_eq_false b
      have hz : betw n lo hi = false := by rw [Bool.eq_false_iff]; exact fun c => b (betw_iff.1 c).2
      replace a := Lib.hid a; replace b := Lib.hid b; replace hz := Lib.hid hz
      go_enter Tryz.func43, Tryz.ntmps43
      go_wp2
      go_ret
      exact ⟨by rw [hz.out]; rfl, rfl⟩
  · have d : decide (lo ≤ n) = false := decide_eq_false a
    have hz : betw n lo hi = false := by rw [Bool.eq_false_iff]; exact fun c => a (betw_iff.1 c).1
    replace a := Lib.hid a; replace hz := Lib.hid hz
    go_enter Tryz.func43, Tryz.ntmps43
    go_wp2
    go_ret
    exact ⟨by rw [hz.out]; rfl, rfl⟩
/-- does a client ask for it? -/
def clientK (k : Int) : Bool := betw k 2 5 || decide (k = 10) || decide (k = 11)
theorem rclient_any (k : Int) (w : World) : Calls Tryz.prog 18 #[.int .i64 k] w fun e w' => e = .returned (.bool (clientK k)) ∧ w' = w := by
  have hw := within13 k 2 5 w
  obtain ⟨q, hq⟩ : ∃ q, q = betw k 2 5 := ⟨_, rfl⟩
  obtain ⟨z, hz⟩ : ∃ z, z = clientK k := ⟨_, rfl⟩
  rw [← hq] at hw
  rw [← hz]
  cases q with
  | true =>
    have hz2 : z = true := by rw [hz]; unfold clientK; rw [← hq]; rfl
    subst hz2
    replace hw := Lib.hid hw; replace hq := Lib.hid hq; replace hz := Lib.hid hz
    go_enter Tryz.func18, Tryz.ntmps18
    go_wp2_with fail
    refine hw.out.mono ?_
    rintro e w1 ⟨rfl, rfl⟩
    go_wp2
    go_ret
    exact ⟨rfl, rfl⟩
  | false =>
    by_cases h1 : k = 10
    · have d1 : (k == (10 : Int)) = true := by rw [h1]; rfl
      have hz2 : z = true := by rw [hz, h1]; rfl
      subst hz2
      replace hw := Lib.hid hw; replace hq := Lib.hid hq; replace hz := Lib.hid hz; replace h1 := Lib.hid h1
      go_enter Tryz.func18, Tryz.ntmps18
      go_wp2_with fail
      refine hw.out.mono ?_
      rintro e w1 ⟨rfl, rfl⟩
      go_wp2
      go_ret
      exact ⟨rfl, rfl⟩
    · have d1 : (k == (10 : Int)) = false := beq_eq_false_iff_ne.2 h1
      have hz2 : z = (k == (11 : Int)) := by
        rw [hz]; unfold clientK; rw [← hq, decide_eq_false h1, Bool.eq_iff_iff]; simp
      replace hw := Lib.hid hw; replace hq := Lib.hid hq; replace hz := Lib.hid hz; replace h1 := Lib.hid h1; replace hz2 := Lib.hid hz2
      go_enter Tryz.func18, Tryz.ntmps18
      go_wp2_with fail
      refine hw.out.mono ?_
      rintro e w1 ⟨rfl, rfl⟩
      go_wp2
      go_ret
      exact ⟨by rw [hz2.out]; rfl, rfl⟩
/-- what the document looks at: right so far, what is left -/
structure SwR where
  ok : Bool
  n : Evn
  m : Nat
def zkind (n : Evn) : Evn := ⟨0, n.epoch, n.tick, n.client, n.seq, n.job, n.attempt, n.node, n.how⟩
/-- behind its kind's fields -/
def swK (e : Evp) : SwR :=
  if e.n.kind = 1 then ⟨inR e.n fldEp, (zkind e.n).set 0 1, e.specs.length⟩
  else if e.n.kind = 2 then ⟨decide (1 ≤ e.specs.length) && decide (e.specs.length ≤ 8) && e.specs.all mayS, zkind e.n, 0⟩
  else if e.n.kind = 3 ∨ e.n.kind = 4 ∨ e.n.kind = 5 then ⟨inR e.n fldJb, (zkind e.n).set 0 5, e.specs.length⟩
  else if e.n.kind = 6 then ⟨inR e.n fldTk, (zkind e.n).set 0 2, e.specs.length⟩
  else if e.n.kind = 7 then ⟨inR e.n fldJb && inR e.n fldAt && inR e.n fldNd && inR e.n fldHw, ((((zkind e.n).set 0 5).set 0 6).set 0 7).set 0 8, e.specs.length⟩
  else if e.n.kind = 8 ∨ e.n.kind = 9 then ⟨inR e.n fldNd && inR e.n fldTk, ((zkind e.n).set 0 7).set 0 2, e.specs.length⟩
  else if e.n.kind = 10 ∨ e.n.kind = 11 then ⟨inR e.n fldNd, (zkind e.n).set 0 7, e.specs.length⟩
  else ⟨false, zkind e.n, e.specs.length⟩
/-- behind the client's -/
def tlK (e : Evp) (r : SwR) : SwR := if clientK e.n.kind = true then ⟨r.ok && inR e.n fldCl && inR e.n fldSq, (r.n.set 0 3).set 0 4, r.m⟩ else r
def rmE (e : Evp) : Bool := (tlK e (swK e)).ok && decide ((tlK e (swK e)).m = 0) && restZ (tlK e (swK e)).n
theorem rmE_eq (e : Evp) : rmE e = mayE e := by
  obtain ⟨⟨kind, epoch, tick, client, seq, job, attempt, node, how⟩, sp⟩ := e
  by_cases k : kind = 1 ∨ kind = 2 ∨ kind = 3 ∨ kind = 4 ∨ kind = 5 ∨ kind = 6 ∨ kind = 7 ∨ kind = 8 ∨ kind = 9 ∨ kind = 10 ∨ kind = 11
  · rcases k with rfl | rfl | rfl | rfl | rfl | rfl | rfl | rfl | rfl | rfl | rfl <;> cases sp <;>
      simp [rmE, tlK, swK, clientK, betw, mayE, fldsOf, chkF, inR, fldEp, fldTk, fldCl, fldSq, fldJb, fldAt, fldNd, fldHw, Evn.get, Evn.set, kindS, restZ, zkind]
    all_goals first | done | ((repeat (split)) <;> first | rfl | (simp_all; done) | (simp_all; omega) | grind)
  · have hs : swK ⟨⟨kind, epoch, tick, client, seq, job, attempt, node, how⟩, sp⟩ = ⟨false, zkind ⟨kind, epoch, tick, client, seq, job, attempt, node, how⟩, sp.length⟩ := by
      unfold swK
      simp only
      rw [if_neg (by omega), if_neg (by omega), if_neg (by omega), if_neg (by omega), if_neg (by omega), if_neg (by omega), if_neg (by omega)]
    have hc : clientK kind = false := by
      rw [Bool.eq_false_iff]
      intro c
      simp [clientK, betw] at c
      omega
    have hf : fldsOf kind = none := by
      unfold fldsOf
      rw [if_neg (by omega), if_neg (by omega), if_neg (by omega), if_neg (by omega), if_neg (by omega), if_neg (by omega), if_neg (by omega)]
    rw [mayE_none hf]
    unfold rmE tlK
    rw [hs, if_neg (by rw [hc]; simp)]
    rfl
end Go.Proofs.YteoihdkaoipocaaGreatDoor

/- The document's events: May 13. Plain theorems: no condition. -/
namespace Go.Proofs.YteoihdkaoipocaaGreatDoor
open Go.RowKit Go.Maps

structure MyC (w : World) (x : Evv) (r : SwR) (ov : Value) (wx : World) : Prop where
  ov : ov = .bool r.ok
  low : Below w.heap.size w wx
  box : wx.heap[w.heap.size]? = some (.cells x.cells 43 (0, 0))
  nx : ∃ so c, wx.heap[w.heap.size + 1]? = some (.cells (⟨r.n, so, r.m, c, []⟩ : Evv).cells 43 (0, 0))
theorem my_low (w : World) (a b : Obj) : Below w.heap.size w ((w.alloc a).alloc b) := ((Below.refl _ _).alloc (Nat.le_refl _) _).alloc (by simp) _
theorem my_box (w : World) (a b : Obj) : ((w.alloc a).alloc b).heap[w.heap.size]? = some a := blk_old _ (blk_new _ _)
theorem my_nx (w : World) (a b : Obj) : ((w.alloc a).alloc b).heap[w.heap.size + 1]? = some b := by
  have := blk_new (w.alloc a) b
  simpa using this
/-- within the loop over the specs -/
structure MyL (w : World) (x : Evv) (wx : World) : Prop where
  low : Below w.heap.size w wx
  box : wx.heap[w.heap.size]? = some (.cells x.cells 43 (0, 0))
  nx : wx.heap[w.heap.size + 1]? = some (.cells (⟨zkind x.n, x.so, x.m, x.c, []⟩ : Evv).cells 43 (0, 0))
theorem MyL.below {w wx w' : World} {x : Evv} (h : MyL w x wx) (hb : Below wx.heap.size wx w') : MyL w x w' :=
  ⟨h.low.trans (hb.mono h.low.size), blk_below hb h.box (blk_lt h.box), blk_below hb h.nx (blk_lt h.nx)⟩
theorem outb {G : Bool} {l : List Spv} {k : Nat} (h : false = (G && ((l.take k).map Spv.pl).all mayS)) : false = (G && (l.map Spv.pl).all mayS) := by
  cases G with
  | false => rfl
  | true =>
    rw [Bool.true_and] at h ⊢
    rw [eq_comm, Bool.eq_false_iff] at h ⊢
    intro c
    refine h (List.all_eq_true.2 fun x hx => List.all_eq_true.1 c x ?_)
    rw [List.map_take] at hx
    exact List.mem_of_mem_take hx
set_option maxRecDepth 100000 in
set_option maxHeartbeats 6400000 in
theorem rmayE_any (x : Evv) (w : World) (hx : x.ok w) : Calls Tryz.prog 13 #[x.val] w fun e w' => e = .returned (.bool (mayE x.pl)) ∧ Below w.heap.size w w' := by
  obtain ⟨Z, hZ⟩ : ∃ Z, Z = mayE x.pl := ⟨_, rfl⟩
  rw [← hZ]
  rw [← rmE_eq] at hZ
  obtain ⟨T, hT⟩ : ∃ T, T = tlK x.pl (swK x.pl) := ⟨_, rfl⟩
  obtain ⟨S, hS⟩ : ∃ S, S = swK x.pl := ⟨_, rfl⟩
  unfold rmE at hZ
  rw [← hT] at hZ
  rw [← hS] at hT
  obtain ⟨⟨kind, epoch, tick, client, seq, job, attempt, node, how⟩, so, m, c, sps⟩ := x
  obtain ⟨X, hX⟩ : ∃ X : Evv, X = ⟨⟨kind, epoch, tick, client, seq, job, attempt, node, how⟩, so, m, c, sps⟩ := ⟨_, rfl⟩
  rw [← hX] at hS hT
  obtain ⟨b1, hb1⟩ : ∃ b, b = inR X.n fldEp := ⟨_, rfl⟩
  obtain ⟨b2, hb2⟩ : ∃ b, b = inR X.n fldTk := ⟨_, rfl⟩
  obtain ⟨b3, hb3⟩ : ∃ b, b = inR X.n fldCl := ⟨_, rfl⟩
  obtain ⟨b4, hb4⟩ : ∃ b, b = inR X.n fldSq := ⟨_, rfl⟩
  obtain ⟨b5, hb5⟩ : ∃ b, b = inR X.n fldJb := ⟨_, rfl⟩
  obtain ⟨b6, hb6⟩ : ∃ b, b = inR X.n fldAt := ⟨_, rfl⟩
  obtain ⟨b7, hb7⟩ : ∃ b, b = inR X.n fldNd := ⟨_, rfl⟩
  obtain ⟨b8, hb8⟩ : ∃ b, b = inR X.n fldHw := ⟨_, rfl⟩
  have c1 : ∀ W, Calls Tryz.prog 43 #[.int .i64 epoch, .int .i64 1, .int .i64 1099511627776] W fun e w' => e = .returned (.bool b1) ∧ w' = W := fun W => by rw [hb1, hX]; exact within13 _ _ _ W
  have c2 : ∀ W, Calls Tryz.prog 43 #[.int .i64 tick, .int .i64 0, .int .i64 1099511627775] W fun e w' => e = .returned (.bool b2) ∧ w' = W := fun W => by rw [hb2, hX]; exact within13 _ _ _ W
  have c3 : ∀ W, Calls Tryz.prog 43 #[.int .i64 client, .int .i64 1, .int .i64 16] W fun e w' => e = .returned (.bool b3) ∧ w' = W := fun W => by rw [hb3, hX]; exact within13 _ _ _ W
  have c4 : ∀ W, Calls Tryz.prog 43 #[.int .i64 seq, .int .i64 1, .int .i64 1099511627776] W fun e w' => e = .returned (.bool b4) ∧ w' = W := fun W => by rw [hb4, hX]; exact within13 _ _ _ W
  have c5 : ∀ W, Calls Tryz.prog 43 #[.int .i64 job, .int .i64 1, .int .i64 100] W fun e w' => e = .returned (.bool b5) ∧ w' = W := fun W => by rw [hb5, hX]; exact within13 _ _ _ W
  have c6 : ∀ W, Calls Tryz.prog 43 #[.int .i64 attempt, .int .i64 1, .int .i64 6] W fun e w' => e = .returned (.bool b6) ∧ w' = W := fun W => by rw [hb6, hX]; exact within13 _ _ _ W
  have c7 : ∀ W, Calls Tryz.prog 43 #[.int .i64 node, .int .i64 0, .int .i64 15] W fun e w' => e = .returned (.bool b7) ∧ w' = W := fun W => by rw [hb7, hX]; exact within13 _ _ _ W
  have c8 : ∀ W, Calls Tryz.prog 43 #[.int .i64 how, .int .i64 1, .int .i64 3] W fun e w' => e = .returned (.bool b8) ∧ w' = W := fun W => by rw [hb8, hX]; exact within13 _ _ _ W
  have hlen : sps.length = m := hx.sps.len
  have hplen : X.pl.specs.length = m := by rw [hX]; show (sps.map Spv.pl).length = m; rw [List.length_map, hlen]
  have hmx := hx.sps.max
  replace hZ := Lib.hid hZ; replace hT := Lib.hid hT; replace hS := Lib.hid hS; replace hX := Lib.hid hX; replace hb1 := Lib.hid hb1; replace hb2 := Lib.hid hb2; replace hb3 := Lib.hid hb3; replace hb4 := Lib.hid hb4; replace hb5 := Lib.hid hb5; replace hb6 := Lib.hid hb6; replace hb7 := Lib.hid hb7; replace hb8 := Lib.hid hb8; replace c1 := Lib.hid c1; replace c2 := Lib.hid c2; replace c3 := Lib.hid c3; replace c4 := Lib.hid c4; replace c5 := Lib.hid c5; replace c6 := Lib.hid c6; replace c7 := Lib.hid c7; replace c8 := Lib.hid c8; replace hx := Lib.hid hx; replace hlen := Lib.hid hlen; replace hplen := Lib.hid hplen
  go_enter Tryz.func13, Tryz.ntmps13
  go_upto_block 0 with fail
  go_cut [4] (fun ov wx => MyC w X S ov wx)
  case first =>
    by_cases k1 : kind = 1
    · subst k1
      have hsw : S = ⟨b1, (zkind X.n).set 0 1, m⟩ := by rw [hS.out, hb1.out, ← hplen.out, hX.out]; rfl
      replace hsw := Lib.hid hsw
      go_wp2_with (first | (go_at_call 43; (first | (with_reducible refine (c1.out _).mono ?_) | (with_reducible refine (c2.out _).mono ?_) | (with_reducible refine (c5.out _).mono ?_) | (with_reducible refine (c6.out _).mono ?_) | (with_reducible refine (c7.out _).mono ?_) | (with_reducible refine (c8.out _).mono ?_)); rintro e wz ⟨rfl, rfl⟩))
      go_meet
      exact ⟨by simp [hsw.out], my_low _ _ _, by rw [hX.out]; exact my_box _ _ _, by rw [hsw.out, hX.out]; exact ⟨_, _, my_nx _ _ _⟩⟩
    by_cases k6 : kind = 6
    · subst k6
      have hsw : S = ⟨b2, (zkind X.n).set 0 2, m⟩ := by rw [hS.out, hb2.out, ← hplen.out, hX.out]; rfl
      replace hsw := Lib.hid hsw
      go_wp2_with (first | (go_at_call 43; (first | (with_reducible refine (c1.out _).mono ?_) | (with_reducible refine (c2.out _).mono ?_) | (with_reducible refine (c5.out _).mono ?_) | (with_reducible refine (c6.out _).mono ?_) | (with_reducible refine (c7.out _).mono ?_) | (with_reducible refine (c8.out _).mono ?_)); rintro e wz ⟨rfl, rfl⟩))
      go_meet
      exact ⟨by simp [hsw.out], my_low _ _ _, by rw [hX.out]; exact my_box _ _ _, by rw [hsw.out, hX.out]; exact ⟨_, _, my_nx _ _ _⟩⟩
    by_cases k3 : kind = 3 ∨ kind = 4 ∨ kind = 5
    · rcases k3 with rfl | rfl | rfl
      all_goals
        have hsw : S = ⟨b5, (zkind X.n).set 0 5, m⟩ := by rw [hS.out, hb5.out, ← hplen.out, hX.out]; rfl
        replace hsw := Lib.hid hsw
        go_wp2_with (first | (go_at_call 43; (first | (with_reducible refine (c1.out _).mono ?_) | (with_reducible refine (c2.out _).mono ?_) | (with_reducible refine (c5.out _).mono ?_) | (with_reducible refine (c6.out _).mono ?_) | (with_reducible refine (c7.out _).mono ?_) | (with_reducible refine (c8.out _).mono ?_)); rintro e wz ⟨rfl, rfl⟩))
        go_meet
        exact ⟨by simp [hsw.out], my_low _ _ _, by rw [hX.out]; exact my_box _ _ _, by rw [hsw.out, hX.out]; exact ⟨_, _, my_nx _ _ _⟩⟩
    by_cases k7 : kind = 7
    · subst k7
      have hsw : S = ⟨b5 && b6 && b7 && b8, ((((zkind X.n).set 0 5).set 0 6).set 0 7).set 0 8, m⟩ := by rw [hS.out, hb5.out, hb6.out, hb7.out, hb8.out, ← hplen.out, hX.out]; rfl
      replace hsw := Lib.hid hsw
      clear c1 c2 c3 c4 hb1 hb2 hb3 hb4
      cases b5 <;> cases b6 <;> cases b7
      all_goals
        go_wp2_with (first | (go_at_call 43; (first | (with_reducible refine (c5.out _).mono ?_) | (with_reducible refine (c6.out _).mono ?_) | (with_reducible refine (c7.out _).mono ?_) | (with_reducible refine (c8.out _).mono ?_)); rintro e wz ⟨rfl, rfl⟩))
        go_meet
        exact ⟨by simp [hsw.out], my_low _ _ _, by rw [hX.out]; exact my_box _ _ _, by rw [hsw.out, hX.out]; exact ⟨_, _, my_nx _ _ _⟩⟩
    by_cases k8 : kind = 8 ∨ kind = 9
    · rcases k8 with rfl | rfl
      all_goals
        have hsw : S = ⟨b7 && b2, ((zkind X.n).set 0 7).set 0 2, m⟩ := by rw [hS.out, hb7.out, hb2.out, ← hplen.out, hX.out]; rfl
        replace hsw := Lib.hid hsw
        cases b7
        all_goals
          go_wp2_with (first | (go_at_call 43; (first | (with_reducible refine (c1.out _).mono ?_) | (with_reducible refine (c2.out _).mono ?_) | (with_reducible refine (c5.out _).mono ?_) | (with_reducible refine (c6.out _).mono ?_) | (with_reducible refine (c7.out _).mono ?_) | (with_reducible refine (c8.out _).mono ?_)); rintro e wz ⟨rfl, rfl⟩))
          go_meet
          exact ⟨by simp [hsw.out], my_low _ _ _, by rw [hX.out]; exact my_box _ _ _, by rw [hsw.out, hX.out]; exact ⟨_, _, my_nx _ _ _⟩⟩
    by_cases k10 : kind = 10 ∨ kind = 11
    · rcases k10 with rfl | rfl
      all_goals
        have hsw : S = ⟨b7, (zkind X.n).set 0 7, m⟩ := by rw [hS.out, hb7.out, ← hplen.out, hX.out]; rfl
        replace hsw := Lib.hid hsw
        go_wp2_with (first | (go_at_call 43; (first | (with_reducible refine (c1.out _).mono ?_) | (with_reducible refine (c2.out _).mono ?_) | (with_reducible refine (c5.out _).mono ?_) | (with_reducible refine (c6.out _).mono ?_) | (with_reducible refine (c7.out _).mono ?_) | (with_reducible refine (c8.out _).mono ?_)); rintro e wz ⟨rfl, rfl⟩))
        go_meet
        exact ⟨by simp [hsw.out], my_low _ _ _, by rw [hX.out]; exact my_box _ _ _, by rw [hsw.out, hX.out]; exact ⟨_, _, my_nx _ _ _⟩⟩
    by_cases k2 : kind = 2
    · subst k2
      have hsw : S = ⟨decide (1 ≤ m) && decide (m ≤ 8) && (sps.map Spv.pl).all mayS, zkind X.n, 0⟩ := by rw [hS.out, ← hplen.out, hX.out]; rfl
      obtain ⟨G, hG⟩ : ∃ G, G = (decide (1 ≤ m) && decide (m ≤ 8)) := ⟨_, rfl⟩
      rw [← hG] at hsw
      have hstart : MyL w X ((w.alloc (.cells (⟨⟨2, epoch, tick, client, seq, job, attempt, node, how⟩, so, m, c, sps⟩ : Evv).cells 43 (0, 0))).alloc (.cells (⟨⟨0, epoch, tick, client, seq, job, attempt, node, how⟩, so, m, c, sps⟩ : Evv).cells 43 (0, 0))) := ⟨my_low _ _ _, by rw [hX.out]; exact my_box _ _ _, by rw [hX.out]; exact my_nx _ _ _⟩
      replace hsw := Lib.hid hsw; replace hG := Lib.hid hG; replace hstart := Lib.hid hstart
      by_cases g1 : 1 ≤ m
      · have e1 : decide ((1 : Int) ≤ (m : Int)) = true := decide_eq_true (by omega)
        have e1' : decide (1 ≤ m) = true := decide_eq_true g1
        by_cases g2 : m ≤ 8
        · have e2 : decide ((m : Int) ≤ (8 : Int)) = true := decide_eq_true (by omega)
          have e2' : decide (m ≤ 8) = true := decide_eq_true g2
          have hGt : G = true := by rw [hG.out, e1', e2']; rfl
          subst hGt
          replace hG := Lib.hid hG
          go_wp2
          go_loopw [4, 5] (fun okv iv wr => ∃ (k : Nat) (o : Bool), okv = .bool o ∧ iv = .int .i64 k ∧ k ≤ m ∧ Hid (o = (true && ((sps.take k).map Spv.pl).all mayS)) ∧ Hid (MyL w X wr)) (fun _ iv _ => m - (intOf iv).toNat)
          case atStart => exact ⟨0, true, rfl, rfl, Nat.zero_le _, (rfl : true = (true && (([] : List Spv).map Spv.pl).all mayS)), hstart.out⟩
          case round =>
            clear e1 e1' g1
            obtain ⟨k, o, rfl, rfl, hk, ho, hL⟩ := hrel
            have y9 : wr.cell? ⟨w.heap.size, 9, none⟩ = some (.slice so m c) := by have := blk_cell hL.out.box 9; rw [hX.out] at this; exact this
            by_cases hkm : k < m
            · have hkm1 : (k : Int) < m := by omega
              cases o with
              | true =>
                have hk0 : (0 : Int) ≤ (k : Int) := by omega
                obtain ⟨s, hs⟩ : ∃ s, sps[k]? = some s := ⟨_, List.getElem?_eq_getElem (by rw [hlen.out]; omega)⟩
                have hxz := hx.out.sps.low hL.out.low
                obtain ⟨b, off, hso, hbl, hcell, hsok⟩ := hxz.cell k s hs
                simp only at hso
                obtain ⟨⟨user, part, nodes, ⟨da, db, dc, dd⟩, wall, prio, array, retries, held, after⟩, sso, sn, scp⟩ := s
                subst hso
                have z0 : wr.cell? ⟨b, off + k * 13, none⟩ = some (.string user) := hcell 0 (by omega)
                have z1 : wr.cell? ⟨b, off + k * 13 + 1, none⟩ = some (.string part) := hcell 1 (by omega)
                have z2 : wr.cell? ⟨b, off + k * 13 + 2, none⟩ = some (.int .i64 nodes) := hcell 2 (by omega)
                have z3 : wr.cell? ⟨b, off + k * 13 + 3, none⟩ = some (.int .i64 da) := hcell 3 (by omega)
                have z4 : wr.cell? ⟨b, off + k * 13 + 4, none⟩ = some (.int .i64 db) := hcell 4 (by omega)
                have z5 : wr.cell? ⟨b, off + k * 13 + 5, none⟩ = some (.int .i64 dc) := hcell 5 (by omega)
                have z6 : wr.cell? ⟨b, off + k * 13 + 6, none⟩ = some (.int .i64 dd) := hcell 6 (by omega)
                have z7 : wr.cell? ⟨b, off + k * 13 + 7, none⟩ = some (.int .i64 wall) := hcell 7 (by omega)
                have z8 : wr.cell? ⟨b, off + k * 13 + 8, none⟩ = some (.int .i64 prio) := hcell 8 (by omega)
                have z9 : wr.cell? ⟨b, off + k * 13 + 9, none⟩ = some (.int .i64 array) := hcell 9 (by omega)
                have z10 : wr.cell? ⟨b, off + k * 13 + 10, none⟩ = some (.int .i64 retries) := hcell 10 (by omega)
                have z11 : wr.cell? ⟨b, off + k * 13 + 11, none⟩ = some (.bool held) := hcell 11 (by omega)
                have z12 : wr.cell? ⟨b, off + k * 13 + 12, none⟩ = some (.slice sso sn scp) := hcell 12 (by omega)
                have hmy := may_any ⟨⟨user, part, nodes, ⟨da, db, dc, dd⟩, wall, prio, array, retries, held, after⟩, sso, sn, scp⟩ wr hsok
                obtain ⟨q, hq⟩ : ∃ q, q = mayS (⟨user, part, nodes, ⟨da, db, dc, dd⟩, wall, prio, array, retries, held, after⟩ : Spp) := ⟨_, rfl⟩
                have hmy' : Calls Tryz.prog 39 #[(⟨⟨user, part, nodes, ⟨da, db, dc, dd⟩, wall, prio, array, retries, held, after⟩, sso, sn, scp⟩ : Spv).val] wr fun e w' => e = .returned (.bool q) ∧ Below wr.heap.size wr w' := by rw [hq]; exact hmy
                have hnext : q = (true && ((sps.take (k + 1)).map Spv.pl).all mayS) := by
                  have e := ho.out
                  rw [take_step hs, List.map_append, List.all_append, hq]
                  revert e
                  cases ((sps.take k).map Spv.pl).all mayS <;> simp
                clear hmy
                replace hs := Lib.hid hs; replace hxz := Lib.hid hxz; replace hcell := Lib.hid hcell; replace hsok := Lib.hid hsok; replace hmy' := Lib.hid hmy'; replace hq := Lib.hid hq; replace hnext := Lib.hid hnext; replace hbl := Lib.hid hbl
                go_wp2_with fail
                refine hmy'.out.mono ?_
                rintro e w2 ⟨rfl, hb2⟩
                clear z0 z1 z2 z3 z4 z5 z6 z7 z8 z9 z10 z11 z12
                clear y9
                have hL2 := hL.out.below hb2
                replace hL2 := Lib.hid hL2; replace hb2 := Lib.hid hb2
                go_wp2
                go_roundw
                case rel => exact ⟨k + 1, q, rfl, by go_num, by omega, hnext.out, hL2.out⟩
                case measure => simp [intOf]; omega
              | false =>
                have f9 : wr.frozen? ⟨w.heap.size + 1, 9, none⟩ = false := blk_free hL.out.nx 9
                have n9 : wr.cell? ⟨w.heap.size + 1, 9, none⟩ = some (.slice so m c) := by have := blk_cell hL.out.nx 9; rw [hX.out] at this; exact this
                have hR2 : MyC w X S (.bool false) (wr.setCell ⟨w.heap.size + 1, 9, none⟩ (.slice none 0 0)) := by
                  refine ⟨by rw [hsw.out]; exact congrArg Value.bool (by (exact (outb (ho.out)))), hL.out.low.setCell (Nat.le_add_right _ _) _, blk_set_other (by omega) _ hL.out.box, none, 0, ?_⟩
                  have h9 := blk_set hL.out.nx 9 (.slice none 0 0)
                  rw [hsw.out]
                  exact h9
                replace hR2 := Lib.hid hR2
                go_wp2
                all_goals
                  go_meet
                  exact hR2.out
            · have hkm1 : ¬ (k : Int) < m := by omega
              have hkm2 : k = m := by omega
              have f9 : wr.frozen? ⟨w.heap.size + 1, 9, none⟩ = false := blk_free hL.out.nx 9
              have n9 : wr.cell? ⟨w.heap.size + 1, 9, none⟩ = some (.slice so m c) := by have := blk_cell hL.out.nx 9; rw [hX.out] at this; exact this
              have hR2 : MyC w X S (.bool o) (wr.setCell ⟨w.heap.size + 1, 9, none⟩ (.slice none 0 0)) := by
                refine ⟨by rw [hsw.out]; exact congrArg Value.bool (by (rw [ho.out, List.take_of_length_le (by rw [hlen.out]; omega)])), hL.out.low.setCell (Nat.le_add_right _ _) _, blk_set_other (by omega) _ hL.out.box, none, 0, ?_⟩
                have h9 := blk_set hL.out.nx 9 (.slice none 0 0)
                rw [hsw.out]
                exact h9
              replace hR2 := Lib.hid hR2
              go_wp2
              all_goals
                go_meet
                exact hR2.out
        · have e2 : decide ((m : Int) ≤ (8 : Int)) = false := decide_eq_false (by omega)
          have e2' : decide (m ≤ 8) = false := decide_eq_false g2
          have hGt : G = false := by rw [hG.out, e1', e2']; rfl
          subst hGt
          replace hG := Lib.hid hG
          go_wp2
          go_loopw [4, 5] (fun okv iv wr => ∃ (k : Nat) (o : Bool), okv = .bool o ∧ iv = .int .i64 k ∧ k ≤ m ∧ Hid (o = (false && ((sps.take k).map Spv.pl).all mayS)) ∧ Hid (MyL w X wr)) (fun _ iv _ => m - (intOf iv).toNat)
          case atStart => exact ⟨0, false, rfl, rfl, Nat.zero_le _, (rfl : false = (false && (([] : List Spv).map Spv.pl).all mayS)), hstart.out⟩
          case round =>
            clear e1 e1' g1
            obtain ⟨k, o, rfl, rfl, hk, ho, hL⟩ := hrel
            have y9 : wr.cell? ⟨w.heap.size, 9, none⟩ = some (.slice so m c) := by have := blk_cell hL.out.box 9; rw [hX.out] at this; exact this
            by_cases hkm : k < m
            · have hkm1 : (k : Int) < m := by omega
              cases o with
              | true =>
                exact absurd ho.out (by simp)
              | false =>
                have f9 : wr.frozen? ⟨w.heap.size + 1, 9, none⟩ = false := blk_free hL.out.nx 9
                have n9 : wr.cell? ⟨w.heap.size + 1, 9, none⟩ = some (.slice so m c) := by have := blk_cell hL.out.nx 9; rw [hX.out] at this; exact this
                have hR2 : MyC w X S (.bool false) (wr.setCell ⟨w.heap.size + 1, 9, none⟩ (.slice none 0 0)) := by
                  refine ⟨by rw [hsw.out]; exact congrArg Value.bool (by (exact (outb (ho.out)))), hL.out.low.setCell (Nat.le_add_right _ _) _, blk_set_other (by omega) _ hL.out.box, none, 0, ?_⟩
                  have h9 := blk_set hL.out.nx 9 (.slice none 0 0)
                  rw [hsw.out]
                  exact h9
                replace hR2 := Lib.hid hR2
                go_wp2
                all_goals
                  go_meet
                  exact hR2.out
            · have hkm1 : ¬ (k : Int) < m := by omega
              have hkm2 : k = m := by omega
              have f9 : wr.frozen? ⟨w.heap.size + 1, 9, none⟩ = false := blk_free hL.out.nx 9
              have n9 : wr.cell? ⟨w.heap.size + 1, 9, none⟩ = some (.slice so m c) := by have := blk_cell hL.out.nx 9; rw [hX.out] at this; exact this
              have hR2 : MyC w X S (.bool o) (wr.setCell ⟨w.heap.size + 1, 9, none⟩ (.slice none 0 0)) := by
                refine ⟨by rw [hsw.out]; exact congrArg Value.bool (by (rw [ho.out, List.take_of_length_le (by rw [hlen.out]; omega)])), hL.out.low.setCell (Nat.le_add_right _ _) _, blk_set_other (by omega) _ hL.out.box, none, 0, ?_⟩
                have h9 := blk_set hL.out.nx 9 (.slice none 0 0)
                rw [hsw.out]
                exact h9
              replace hR2 := Lib.hid hR2
              go_wp2
              all_goals
                go_meet
                exact hR2.out
      · have e1 : decide ((1 : Int) ≤ (m : Int)) = false := decide_eq_false (by omega)
        have e1' : decide (1 ≤ m) = false := decide_eq_false g1
        have hGt : G = false := by rw [hG.out, e1']; rfl
        subst hGt
        replace hG := Lib.hid hG
        go_wp2
        go_loopw [4, 5] (fun okv iv wr => ∃ (k : Nat) (o : Bool), okv = .bool o ∧ iv = .int .i64 k ∧ k ≤ m ∧ Hid (o = (false && ((sps.take k).map Spv.pl).all mayS)) ∧ Hid (MyL w X wr)) (fun _ iv _ => m - (intOf iv).toNat)
        case atStart => exact ⟨0, false, rfl, rfl, Nat.zero_le _, (rfl : false = (false && (([] : List Spv).map Spv.pl).all mayS)), hstart.out⟩
        case round =>
          clear e1 e1' g1
          obtain ⟨k, o, rfl, rfl, hk, ho, hL⟩ := hrel
          have y9 : wr.cell? ⟨w.heap.size, 9, none⟩ = some (.slice so m c) := by have := blk_cell hL.out.box 9; rw [hX.out] at this; exact this
          by_cases hkm : k < m
          · have hkm1 : (k : Int) < m := by omega
            cases o with
            | true =>
              exact absurd ho.out (by simp)
            | false =>
              have f9 : wr.frozen? ⟨w.heap.size + 1, 9, none⟩ = false := blk_free hL.out.nx 9
              have n9 : wr.cell? ⟨w.heap.size + 1, 9, none⟩ = some (.slice so m c) := by have := blk_cell hL.out.nx 9; rw [hX.out] at this; exact this
              have hR2 : MyC w X S (.bool false) (wr.setCell ⟨w.heap.size + 1, 9, none⟩ (.slice none 0 0)) := by
                refine ⟨by rw [hsw.out]; exact congrArg Value.bool (by (exact (outb (ho.out)))), hL.out.low.setCell (Nat.le_add_right _ _) _, blk_set_other (by omega) _ hL.out.box, none, 0, ?_⟩
                have h9 := blk_set hL.out.nx 9 (.slice none 0 0)
                rw [hsw.out]
                exact h9
              replace hR2 := Lib.hid hR2
              go_wp2
              all_goals
                go_meet
                exact hR2.out
          · have hkm1 : ¬ (k : Int) < m := by omega
            have hkm2 : k = m := by omega
            have f9 : wr.frozen? ⟨w.heap.size + 1, 9, none⟩ = false := blk_free hL.out.nx 9
            have n9 : wr.cell? ⟨w.heap.size + 1, 9, none⟩ = some (.slice so m c) := by have := blk_cell hL.out.nx 9; rw [hX.out] at this; exact this
            have hR2 : MyC w X S (.bool o) (wr.setCell ⟨w.heap.size + 1, 9, none⟩ (.slice none 0 0)) := by
              refine ⟨by rw [hsw.out]; exact congrArg Value.bool (by (rw [ho.out, List.take_of_length_le (by rw [hlen.out]; omega)])), hL.out.low.setCell (Nat.le_add_right _ _) _, blk_set_other (by omega) _ hL.out.box, none, 0, ?_⟩
              have h9 := blk_set hL.out.nx 9 (.slice none 0 0)
              rw [hsw.out]
              exact h9
            replace hR2 := Lib.hid hR2
            go_wp2
            all_goals
              go_meet
              exact hR2.out
    have d1 : (kind == (1 : Int)) = false := beq_eq_false_iff_ne.2 k1
    have d2 : (kind == (2 : Int)) = false := beq_eq_false_iff_ne.2 k2
    have d3 : (kind == (3 : Int)) = false := beq_eq_false_iff_ne.2 (by omega)
    have d4 : (kind == (4 : Int)) = false := beq_eq_false_iff_ne.2 (by omega)
    have d5 : (kind == (5 : Int)) = false := beq_eq_false_iff_ne.2 (by omega)
    have d6 : (kind == (6 : Int)) = false := beq_eq_false_iff_ne.2 k6
    have d7 : (kind == (7 : Int)) = false := beq_eq_false_iff_ne.2 k7
    have d8 : (kind == (8 : Int)) = false := beq_eq_false_iff_ne.2 (by omega)
    have d9 : (kind == (9 : Int)) = false := beq_eq_false_iff_ne.2 (by omega)
    have d10 : (kind == (10 : Int)) = false := beq_eq_false_iff_ne.2 (by omega)
    have d11 : (kind == (11 : Int)) = false := beq_eq_false_iff_ne.2 (by omega)
    have hsw : S = ⟨false, zkind X.n, m⟩ := by
      rw [hS.out, ← hplen.out]
      have e : X.pl.n.kind = kind := by rw [hX.out]; rfl
      unfold swK
      rw [e, if_neg k1, if_neg k2, if_neg k3, if_neg k6, if_neg k7, if_neg k8, if_neg k10]
      rfl
    clear k1 k2 k3 k6 k7 k8 k10
    replace hsw := Lib.hid hsw
    go_wp2
    go_meet
    exact ⟨by simp [hsw.out], my_low _ _ _, by rw [hX.out]; exact my_box _ _ _, by rw [hsw.out, hX.out]; exact ⟨_, _, my_nx _ _ _⟩⟩
  case rest =>
    obtain ⟨rfl, hlow, hbox, hnx⟩ := hcut
    obtain ⟨so1, c1', hnx⟩ := hnx
    have y0 : wc.cell? ⟨w.heap.size, 0, none⟩ = some (.int .i64 kind) := by have := blk_cell hbox 0; rw [hX.out] at this; exact this
    have y3 : wc.cell? ⟨w.heap.size, 3, none⟩ = some (.int .i64 client) := by have := blk_cell hbox 3; rw [hX.out] at this; exact this
    have y4 : wc.cell? ⟨w.heap.size, 4, none⟩ = some (.int .i64 seq) := by have := blk_cell hbox 4; rw [hX.out] at this; exact this
    have hrc := rclient_any kind wc
    obtain ⟨q, hq⟩ : ∃ q, q = clientK kind := ⟨_, rfl⟩
    rw [← hq] at hrc
    obtain ⟨ok, n1, m1⟩ := S
    have hTq : q = true → T = ⟨ok && b3 && b4, (n1.set 0 3).set 0 4, m1⟩ := fun e => by
      rw [hT.out, hb3.out, hb4.out]
      unfold tlK
      rw [if_pos (by rw [← e, hq, hX.out]; rfl)]
      rfl
    have hTn : q = false → T = ⟨ok, n1, m1⟩ := fun e => by
      rw [hT.out]
      unfold tlK
      rw [if_neg (by rw [show X.pl.n.kind = kind by rw [hX.out]; rfl, ← hq, e]; simp)]
    clear hS hq
    replace hlow := Lib.hid hlow; replace hbox := Lib.hid hbox; replace hnx := Lib.hid hnx; replace hrc := Lib.hid hrc; replace hTq := Lib.hid hTq; replace hTn := Lib.hid hTn
    go_upto_if 105 with (go_at_call 18; (with_reducible refine hrc.out.mono ?_); rintro e wz ⟨rfl, rfl⟩)
    go_cut [4] (fun ov wx => MyC w X T ov wx)
    case first =>
      cases q with
      | false =>
        have hT2 := hTn.out rfl
        replace hT2 := Lib.hid hT2
        go_wp2
        go_meet
        exact ⟨by rw [hT2.out], hlow.out, hbox.out, by rw [hT2.out]; exact ⟨_, _, hnx.out⟩⟩
      | true =>
        have hT2 := hTq.out rfl
        have g3 := blk_free hnx.out 3
        have n3 : wz.cell? ⟨w.heap.size + 1, 3, none⟩ = some (.int .i64 n1.client) := blk_cell hnx.out 3
        have n4 : wz.cell? ⟨w.heap.size + 1, 4, none⟩ = some (.int .i64 n1.seq) := blk_cell hnx.out 4
        have g4 := blk_free (blk_set hnx.out 3 (.int .i64 0)) 4
        have hR2 : ∀ v, v = T.ok → MyC w X T (.bool v) ((wz.setCell ⟨w.heap.size + 1, 3, none⟩ (.int .i64 0)).setCell ⟨w.heap.size + 1, 4, none⟩ (.int .i64 0)) := fun v hv => by
          refine ⟨by rw [hv], (hlow.out.setCell (Nat.le_add_right _ _) _).setCell (Nat.le_add_right _ _) _, blk_set_other (by omega) _ (blk_set_other (by omega) _ hbox.out), so1, c1', ?_⟩
          have h9 := blk_set (blk_set hnx.out 3 (.int .i64 0)) 4 (.int .i64 0)
          rw [hT2]
          rw [h9]
          obtain ⟨k1, e1, t1, cl1, s1, j1, a1, nd1, h1⟩ := n1
          simp [Evn.set]
        replace hT2 := Lib.hid hT2; replace hR2 := Lib.hid hR2
        cases ok <;> cases b3
        all_goals
          go_wp2_with (first | (go_at_call 43; (first | (with_reducible refine (c3.out _).mono ?_) | (with_reducible refine (c4.out _).mono ?_)); rintro e wz ⟨rfl, rfl⟩))
          go_meet
          exact hR2.out _ (by simp [hT2.out])
    case rest =>
      obtain ⟨rfl, hlow2, hbox2, hnx2⟩ := hcut
      obtain ⟨so2, c2', hnx2⟩ := hnx2
      obtain ⟨ok2, ⟨k2, epoch2, tick2, client2, seq2, job2, attempt2, node2, how2⟩, m2⟩ := T
      clear y0 y3 y4 hT
      have x1 : wc.cell? ⟨w.heap.size + 1, 1, none⟩ = some (.int .i64 epoch2) := blk_cell hnx2 1
      have x2 : wc.cell? ⟨w.heap.size + 1, 2, none⟩ = some (.int .i64 tick2) := blk_cell hnx2 2
      have x3 : wc.cell? ⟨w.heap.size + 1, 3, none⟩ = some (.int .i64 client2) := blk_cell hnx2 3
      have x4 : wc.cell? ⟨w.heap.size + 1, 4, none⟩ = some (.int .i64 seq2) := blk_cell hnx2 4
      have x5 : wc.cell? ⟨w.heap.size + 1, 5, none⟩ = some (.int .i64 job2) := blk_cell hnx2 5
      have x6 : wc.cell? ⟨w.heap.size + 1, 6, none⟩ = some (.int .i64 attempt2) := blk_cell hnx2 6
      have x7 : wc.cell? ⟨w.heap.size + 1, 7, none⟩ = some (.int .i64 node2) := blk_cell hnx2 7
      have x8 : wc.cell? ⟨w.heap.size + 1, 8, none⟩ = some (.int .i64 how2) := blk_cell hnx2 8
      have x9 : wc.cell? ⟨w.heap.size + 1, 9, none⟩ = some (.slice so2 m2 c2') := blk_cell hnx2 9
      replace hlow2 := Lib.hid hlow2; replace hbox2 := Lib.hid hbox2; replace hnx2 := Lib.hid hnx2
      cases ok2 with
      | false =>
        have hz : Z = false := by rw [hZ.out]; rfl
        replace hz := Lib.hid hz
        go_wp2
        go_ret
        exact ⟨by rw [hz.out]; rfl, hlow2.out⟩
      | true =>
      by_cases z : m2 = 0
      rotate_left
      · have d : ((m2 : Int) == (0 : Int)) = false := beq_eq_false_iff_ne.2 (by omega)
        have hz : Z = false := by rw [hZ.out]; simp [restZ, z]
        replace hz := Lib.hid hz; replace z := Lib.hid z
        go_wp2
        go_ret
        exact ⟨by rw [hz.out]; rfl, hlow2.out⟩
      have d0 : ((m2 : Int) == (0 : Int)) = true := by rw [z]; rfl
      subst z
      by_cases z : epoch2 = 0
      rotate_left
      · have d : ((epoch2 : Int) == (0 : Int)) = false := beq_eq_false_iff_ne.2 (by omega)
        have hz : Z = false := by rw [hZ.out]; simp [restZ, z]
        replace hz := Lib.hid hz; replace z := Lib.hid z
        go_wp2
        go_ret
        exact ⟨by rw [hz.out]; rfl, hlow2.out⟩
      have d1 : ((epoch2 : Int) == (0 : Int)) = true := by rw [z]; rfl
      subst z
      by_cases z : tick2 = 0
      rotate_left
      · have d : ((tick2 : Int) == (0 : Int)) = false := beq_eq_false_iff_ne.2 (by omega)
        have hz : Z = false := by rw [hZ.out]; simp [restZ, z]
        replace hz := Lib.hid hz; replace z := Lib.hid z
        go_wp2
        go_ret
        exact ⟨by rw [hz.out]; rfl, hlow2.out⟩
      have d2 : ((tick2 : Int) == (0 : Int)) = true := by rw [z]; rfl
      subst z
      by_cases z : client2 = 0
      rotate_left
      · have d : ((client2 : Int) == (0 : Int)) = false := beq_eq_false_iff_ne.2 (by omega)
        have hz : Z = false := by rw [hZ.out]; simp [restZ, z]
        replace hz := Lib.hid hz; replace z := Lib.hid z
        go_wp2
        go_ret
        exact ⟨by rw [hz.out]; rfl, hlow2.out⟩
      have d3 : ((client2 : Int) == (0 : Int)) = true := by rw [z]; rfl
      subst z
      by_cases z : seq2 = 0
      rotate_left
      · have d : ((seq2 : Int) == (0 : Int)) = false := beq_eq_false_iff_ne.2 (by omega)
        have hz : Z = false := by rw [hZ.out]; simp [restZ, z]
        replace hz := Lib.hid hz; replace z := Lib.hid z
        go_wp2
        go_ret
        exact ⟨by rw [hz.out]; rfl, hlow2.out⟩
      have d4 : ((seq2 : Int) == (0 : Int)) = true := by rw [z]; rfl
      subst z
      by_cases z : job2 = 0
      rotate_left
      · have d : ((job2 : Int) == (0 : Int)) = false := beq_eq_false_iff_ne.2 (by omega)
        have hz : Z = false := by rw [hZ.out]; simp [restZ, z]
        replace hz := Lib.hid hz; replace z := Lib.hid z
        go_wp2
        go_ret
        exact ⟨by rw [hz.out]; rfl, hlow2.out⟩
      have d5 : ((job2 : Int) == (0 : Int)) = true := by rw [z]; rfl
      subst z
      by_cases z : attempt2 = 0
      rotate_left
      · have d : ((attempt2 : Int) == (0 : Int)) = false := beq_eq_false_iff_ne.2 (by omega)
        have hz : Z = false := by rw [hZ.out]; simp [restZ, z]
        replace hz := Lib.hid hz; replace z := Lib.hid z
        go_wp2
        go_ret
        exact ⟨by rw [hz.out]; rfl, hlow2.out⟩
      have d6 : ((attempt2 : Int) == (0 : Int)) = true := by rw [z]; rfl
      subst z
      by_cases z : node2 = 0
      rotate_left
      · have d : ((node2 : Int) == (0 : Int)) = false := beq_eq_false_iff_ne.2 (by omega)
        have hz : Z = false := by rw [hZ.out]; simp [restZ, z]
        replace hz := Lib.hid hz; replace z := Lib.hid z
        go_wp2
        go_ret
        exact ⟨by rw [hz.out]; rfl, hlow2.out⟩
      have d7 : ((node2 : Int) == (0 : Int)) = true := by rw [z]; rfl
      subst z
      by_cases z : how2 = 0
      rotate_left
      · have d : ((how2 : Int) == (0 : Int)) = false := beq_eq_false_iff_ne.2 (by omega)
        have hz : Z = false := by rw [hZ.out]; simp [restZ, z]
        replace hz := Lib.hid hz; replace z := Lib.hid z
        go_wp2
        go_ret
        exact ⟨by rw [hz.out]; rfl, hlow2.out⟩
      have d8 : ((how2 : Int) == (0 : Int)) = true := by rw [z]; rfl
      subst z
      have hz : Z = true := by rw [hZ.out]; rfl
      replace hz := Lib.hid hz
      go_wp2
      go_ret
      exact ⟨by rw [hz.out]; rfl, hlow2.out⟩
end Go.Proofs.YteoihdkaoipocaaGreatDoor
