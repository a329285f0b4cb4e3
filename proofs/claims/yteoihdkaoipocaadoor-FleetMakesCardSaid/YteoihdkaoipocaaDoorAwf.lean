/- corveelaw05.awake: the document's examples of fleets. -/
import Derived.Test.YteoihdkaoipocaaDoorFct
namespace Go.Proofs.YteoihdkaoipocaaDoor
open Go.RowKit Go.Maps Go.Shelf

def aT1 : ByteArray := ⟨#[110, 49, 32, 52, 44, 56, 44, 48, 44, 48, 32, 109, 97, 105, 110, 32, 103, 112, 117, 10, 110, 50, 32, 52, 44, 56, 44, 48, 44, 48, 32, 109, 97, 105, 110, 10]⟩
def aT2 : ByteArray := ⟨#[35, 32, 120, 10, 110, 49, 32, 52, 44, 56, 44, 48, 44, 48]⟩
def aN1 : ByteArray := ⟨#[110, 49]⟩
def aN2 : ByteArray := ⟨#[110, 50]⟩
def aMain : ByteArray := ⟨#[109, 97, 105, 110]⟩
def aGpu : ByteArray := ⟨#[103, 112, 117]⟩
def aV1 : List Ndv := [⟨aN1, ⟨4, 8, 0, 0⟩, [aMain, aGpu]⟩, ⟨aN2, ⟨4, 8, 0, 0⟩, [aMain]⟩]
theorem aR1 : readOf aT1 = (aV1, 0, 0) := by kernel_rfl
theorem aR2 : (readOf aT2).2 = (50, 2) := by kernel_rfl
theorem aIn : inOf aV1 aMain = [0, 1] := by kernel_rfl
theorem aTot : totOf aV1 aMain = ⟨8, 16, 0, 0⟩ := by kernel_rfl
theorem aIdx : idxN (aV1.map Ndv.name) aN2 0 = 1 := by kernel_rfl
theorem aSort : ([[109, 97, 105, 110], [103, 112, 117], [109, 97, 105, 110]] : List (List UInt8)).mergeSort (fun x y => decide (x ≤ y)) = [[103, 112, 117], [109, 97, 105, 110], [109, 97, 105, 110]] := by
  simp [List.mergeSort, List.MergeSort.Internal.splitInTwo, List.merge]
  rw [if_neg (show ¬ ([109, 97, 105, 110] : List UInt8) ≤ [103, 112, 117] from by decide)]
  simp [List.merge]
  decide
theorem aParts : (partsOf aV1).map ofL = [aGpu, aMain] := by
  unfold partsOf
  rw [show (rawParts aV1).map (·.data.toList) = [[109, 97, 105, 110], [103, 112, 117], [109, 97, 105, 110]] from by kernel_rfl, aSort]
  kernel_rfl
theorem aEq (w : World) : (Op.equalIn 10000 25 (.agg #[.int .i64 8, .int .i64 16, .int .i64 0, .int .i64 0]) (.agg #[.int .i64 8, .int .i64 16, .int .i64 0, .int .i64 0])).run Tryd.prog w = .ok true w := by kernel_rfl
set_option maxRecDepth 100000 in
set_option maxHeartbeats 3200000 in
theorem awake5 (w : World) (hm : Mx w) : Calls Tryd.prog 18 #[] w fun e w' => e = .returned (.bool true) ∧ Below w.heap.size w w' := by
  have hc1 := read_any aT1 w hm
  replace hc1 := Lib.hid hc1
  go_enter Tryd.func18, Tryd.ntmps18
  go_wp2_with fail
  refine hc1.out.mono ?_
  rintro e w1 ⟨p, rfl, hb1, hcase⟩
  rw [aR1] at hcase ⊢
  obtain ⟨_, rfl, hF⟩ := hcase.resolve_left (fun h => h.1 rfl)
  have hc2 := read_any aT2 w1 (hm.low hb1)
  replace hb1 := Lib.hid hb1; replace hcase := Lib.hid hcase; replace hF := Lib.hid hF; replace hc2 := Lib.hid hc2
  go_wp2_with fail
  refine hc2.out.mono ?_
  rintro e w2 ⟨p, rfl, hb2, hcase2⟩
  have hF2 := hF.out.below hb2
  rw [show (readOf aT2).2.1 = 50 from by rw [aR2], show (readOf aT2).2.2 = 2 from by rw [aR2]]
  have hok : FltOk aV1 := by have := readOf_good aT1; rw [aR1] at this; exact this
  have hc3 := parts_flt hF2 hok
  replace hF2 := Lib.hid hF2; replace hb2 := Lib.hid hb2; replace hcase2 := Lib.hid hcase2; replace hok := Lib.hid hok; replace hc3 := Lib.hid hc3
  go_wp2_with fail
  refine hc3.out.mono ?_
  rintro e w3 ⟨v, rfl, hO, hb3⟩
  rw [aParts] at hO
  have hF3 := hF2.out.below hb3
  obtain ⟨g, cap, rfl⟩ := Joins.ownsRow_form hO.row (by decide)
  have hg0 := (World.ownsRow.lt hO.row g rfl).2
  have hg := hg0
  have q0 : w3.cell? ⟨g, 0, none⟩ = some (.string aGpu) := World.ownsRow.cellAt hO.row 0 (by decide)
  have hl3 := len_flt hF3
  replace hF3 := Lib.hid hF3; replace hb3 := Lib.hid hb3; replace hO := Lib.hid hO; replace hl3 := Lib.hid hl3; replace q0 := Lib.hid q0
  go_wp2_with fail
  refine hl3.out.mono ?_
  rintro e w4 ⟨rfl, rfl⟩
  rw [show ((aV1.length : Nat) : Int) = 2 from rfl]
  have hc4 := in_flt hF3.out hok.out aMain
  replace hc4 := Lib.hid hc4
  go_wp2_with fail
  refine hc4.out.mono ?_
  rintro e w5 ⟨v5, rfl, hO5, hb5⟩
  rw [aIn] at hO5
  obtain ⟨g5, cap5, rfl⟩ := Joins.ownsRow_form hO5.row (by decide)
  have hF5 := hF3.out.below hb5
  have hc5 := tot_flt hF5 hok.out aMain
  replace hF5 := Lib.hid hF5; replace hb5 := Lib.hid hb5; replace hO5 := Lib.hid hO5; replace hc5 := Lib.hid hc5
  go_wp2_with fail
  refine hc5.out.mono ?_
  rintro e w6 ⟨rfl, hb6⟩
  rw [show (totOf aV1 aMain).val = .agg #[.int .i64 8, .int .i64 16, .int .i64 0, .int .i64 0] from by rw [aTot]]
  have hEq := aEq
  have hF6 := hF5.out.below hb6
  have q6 : w6.cell? ⟨g, 0, none⟩ = some (.string { data := #[103, 112, 117] }) := by
    rw [below_cell hb6 (Nat.lt_of_lt_of_le hg hb5.out.size), below_cell hb5.out hg]; exact q0.out
  have hc6 := index_flt hF6 hok.out aN2 (by decide)
  replace hF6 := Lib.hid hF6; replace hb6 := Lib.hid hb6; replace hc6 := Lib.hid hc6
  go_wp2_with fail
  refine hc6.out.mono ?_
  rintro e w7 ⟨rfl, rfl⟩
  rw [aIdx]
  go_wp2
  go_ret
  exact ⟨rfl, hb1.out.trans ((hb2.out.trans ((hb3.out.trans ((hb5.out.trans (hb6.out.mono hb5.out.size)).mono hb3.out.size)).mono hb2.out.size)).mono hb1.out.size)⟩
end Go.Proofs.YteoihdkaoipocaaDoor
