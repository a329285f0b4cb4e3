/- fleet.Name and corveeref05.Name: which texts are names. -/
import Derived.Test.YteoihdkaoipocaaDoorVec
import Derived.WalkLawsBesides
namespace Go.Proofs.YteoihdkaoipocaaDoor
open Go.RowKit

abbrev Bs := List UInt8
/-- the letter at a place, as a number -/
def chz (s : ByteArray) (k : Nat) : Int := ((s.data.toList.getD k 0).toNat : Int)
def nameCh (c : Int) : Bool := (decide (97 ≤ c) && decide (c ≤ 122)) || (decide (48 ≤ c) && decide (c ≤ 57)) || decide (c = 45)
def nameTo (s : ByteArray) : Nat → Bool
  | 0 => true
  | k + 1 => nameTo s k && nameCh (chz s k)
def isName (s : ByteArray) : Bool := decide (1 ≤ s.size) && decide (s.size ≤ 16) && nameTo s s.size
theorem nameTo_le {s : ByteArray} {k n : Nat} (h : nameTo s n = true) (hk : k ≤ n) : nameTo s k = true := by
  induction n with
  | zero => have : k = 0 := by omega
            subst this; rfl
  | succ n ih =>
    simp only [nameTo, Bool.and_eq_true] at h
    by_cases c : k = n + 1
    · subst c; simp [nameTo, h]
    · exact ih h.1 (by omega)
theorem nameTo_no {s : ByteArray} {k : Nat} (hk : k < s.size) (h : nameCh (chz s k) = false) : nameTo s s.size = false := by
  rw [Bool.eq_false_iff]
  intro c
  have := nameTo_le c (show k + 1 ≤ s.size by omega)
  simp [nameTo, h] at this
theorem chz_lo (s : ByteArray) (k : Nat) : 0 ≤ chz s k := by unfold chz; omega
theorem chz_hi (s : ByteArray) (k : Nat) : chz s k < 256 := by unfold chz; have := UInt8.toNat_lt (s.data.toList.getD k 0); omega
theorem index_at {P : Program} {t : TypeId} (h : P.underlying t = some .string) (s : ByteArray) (k : Nat) (i : Int) (hi : i = k) (hk : k < s.size) (w : World) : (Instr.index t (.string s) (.int .i64 i)).run P w = .ok (.int .u8 (chz s k)) w := by
  subst hi
  rw [run_index_string w t s .i64 k h, dif_pos ⟨by omega, by omega⟩]
  have e : s[((k : Int)).toNat]'(by omega) = s.data.toList.getD k 0 := by
    have h2 : k < s.data.toList.length := by simpa using hk
    have h4 : k < s.data.size := hk
    have h3 : s.data.toList.getD k 0 = s.data.toList[k] := by
      simp only [List.getD, Array.getElem?_toList, Array.getElem_toList]
      rw [Array.getElem?_eq_getElem h4]; rfl
    rw [h3]
    rfl
  rw [e]
  rfl

theorem ch_cases (c : Int) : (nameCh c = true ∧ ((97 ≤ c ∧ c ≤ 122) ∨ (48 ≤ c ∧ c ≤ 57) ∨ c = 45)) ∨ (nameCh c = false ∧ ((c < 48 ∧ c ≠ 45) ∨ (57 < c ∧ c < 97) ∨ 122 < c)) := by
  by_cases h : (97 ≤ c ∧ c ≤ 122) ∨ (48 ≤ c ∧ c ≤ 57) ∨ c = 45
  · exact .inl ⟨by unfold nameCh; simp; omega, h⟩
  · refine .inr ⟨?_, by omega⟩
    rw [Bool.eq_false_iff]; intro hh
    unfold nameCh at hh
    simp at hh
    omega

set_option maxRecDepth 100000 in
set_option maxHeartbeats 1600000 in
theorem name_any (s : ByteArray) (w : World) (hs : s.size ≤ maxLen) : Calls Tryd.prog 19 #[.string s] w fun e w' => e = .returned (.bool (isName s)) ∧ Below w.heap.size w w' := by
  have hix : ∀ (k : Nat), k < s.size → ∀ w, (Instr.index 9 (.string s) (.int .i64 (k : Int))).run Tryd.prog w = .ok (.int .u8 (chz s k)) w := fun k hk w => index_at Tryd.underlying9 s k k rfl hk w
  have hmx : s.size ≤ 9223372036854775807 := hs
  replace hix := Lib.hid hix
  go_enter Tryd.func19, Tryd.ntmps19
  go_wp2
  go_loopw [3, 4, 7] (fun _ _ i wr => ∃ k : Nat, i = .int .i64 k ∧ k ≤ s.size ∧ Hid (nameTo s k = true) ∧ Hid (Below w.heap.size w wr)) (fun _ _ i _ => s.size - (intOf i).toNat)
  case atStart => exact ⟨0, rfl, Nat.zero_le _, rfl, Below.refl _ _⟩
  case round =>
    obtain ⟨k, rfl, hk, hy, hB⟩ := hrel
    by_cases hk1 : k < s.size
    · have hc1 : (k : Int) < s.size := by omega
      have hi1 := hix.out k hk1
      obtain ⟨c, hc⟩ : ∃ c, c = chz s k := ⟨_, rfl⟩
      rw [← hc] at hi1
      have hcs := ch_cases c
      rcases hcs with ⟨hch, h | h | h⟩ | ⟨hch, h | h | h⟩
      · have k1 : decide (c < 97) = false := by simp; omega
        have k2 : decide (122 < c) = false := by simp; omega
        have k3 : decide (c < 48) = false := by simp; omega
        have k4 : decide (57 < c) = true := by simp; omega
        have k5 : (c != 45) = true := by simp; try omega
        have hch' : nameCh (chz s k) = true := by rw [← hc]; exact hch
        replace hc := Lib.hid hc; replace hch := Lib.hid hch; replace hch' := Lib.hid hch'; replace h := Lib.hid h
        have hy2 : nameTo s (k + 1) = true := by simp only [nameTo, hy.out, hch'.out, Bool.and_self]
        replace hy2 := Lib.hid hy2
        go_wp2
        go_roundw
        case rel => exact ⟨k + 1, by go_num, by omega, hy2.out, hB.out⟩
        case measure => simp [intOf]; omega
      · have k1 : decide (c < 97) = true := by simp; omega
        have k2 : decide (122 < c) = false := by simp; omega
        have k3 : decide (c < 48) = false := by simp; omega
        have k4 : decide (57 < c) = false := by simp; omega
        have k5 : (c != 45) = true := by simp; try omega
        have hch' : nameCh (chz s k) = true := by rw [← hc]; exact hch
        replace hc := Lib.hid hc; replace hch := Lib.hid hch; replace hch' := Lib.hid hch'; replace h := Lib.hid h
        have hy2 : nameTo s (k + 1) = true := by simp only [nameTo, hy.out, hch'.out, Bool.and_self]
        replace hy2 := Lib.hid hy2
        go_wp2
        go_roundw
        case rel => exact ⟨k + 1, by go_num, by omega, hy2.out, hB.out⟩
        case measure => simp [intOf]; omega
      · have k1 : decide (c < 97) = true := by simp; omega
        have k2 : decide (122 < c) = false := by simp; omega
        have k3 : decide (c < 48) = true := by simp; omega
        have k4 : decide (57 < c) = false := by simp; omega
        have k5 : (c != 45) = false := by simp; try omega
        have hch' : nameCh (chz s k) = true := by rw [← hc]; exact hch
        replace hc := Lib.hid hc; replace hch := Lib.hid hch; replace hch' := Lib.hid hch'; replace h := Lib.hid h
        have hy2 : nameTo s (k + 1) = true := by simp only [nameTo, hy.out, hch'.out, Bool.and_self]
        replace hy2 := Lib.hid hy2
        go_wp2
        go_roundw
        case rel => exact ⟨k + 1, by go_num, by omega, hy2.out, hB.out⟩
        case measure => simp [intOf]; omega
      · have k1 : decide (c < 97) = true := by simp; omega
        have k2 : decide (122 < c) = false := by simp; omega
        have k3 : decide (c < 48) = true := by simp; omega
        have k4 : decide (57 < c) = false := by simp; omega
        have k5 : (c != 45) = true := by simp; try omega
        have hno : nameCh (chz s k) = false := by rw [← hc]; exact hch
        replace hc := Lib.hid hc; replace hch := Lib.hid hch; replace hno := Lib.hid hno; replace h := Lib.hid h
        have hz : isName s = false := by unfold isName; rw [nameTo_no hk1 hno.out]; simp
        replace hz := Lib.hid hz
        go_wp2
        go_ret
        exact ⟨by rw [hz.out]; rfl, hB.out⟩
      · have k1 : decide (c < 97) = true := by simp; omega
        have k2 : decide (122 < c) = false := by simp; omega
        have k3 : decide (c < 48) = false := by simp; omega
        have k4 : decide (57 < c) = true := by simp; omega
        have k5 : (c != 45) = true := by simp; try omega
        have hno : nameCh (chz s k) = false := by rw [← hc]; exact hch
        replace hc := Lib.hid hc; replace hch := Lib.hid hch; replace hno := Lib.hid hno; replace h := Lib.hid h
        have hz : isName s = false := by unfold isName; rw [nameTo_no hk1 hno.out]; simp
        replace hz := Lib.hid hz
        go_wp2
        go_ret
        exact ⟨by rw [hz.out]; rfl, hB.out⟩
      · have k1 : decide (c < 97) = false := by simp; omega
        have k2 : decide (122 < c) = true := by simp; omega
        have k3 : decide (c < 48) = false := by simp; omega
        have k4 : decide (57 < c) = true := by simp; omega
        have k5 : (c != 45) = true := by simp; try omega
        have hno : nameCh (chz s k) = false := by rw [← hc]; exact hch
        replace hc := Lib.hid hc; replace hch := Lib.hid hch; replace hno := Lib.hid hno; replace h := Lib.hid h
        have hz : isName s = false := by unfold isName; rw [nameTo_no hk1 hno.out]; simp
        replace hz := Lib.hid hz
        go_wp2
        go_ret
        exact ⟨by rw [hz.out]; rfl, hB.out⟩
    · have hc1 : ¬ (k : Int) < s.size := by omega
      have hkn : k = s.size := by omega
      subst hkn
      have hz : isName s = (decide ((1 : Int) ≤ s.size) && decide ((s.size : Int) ≤ 16)) := by
        unfold isName; rw [hy.out, Bool.and_true]
        congr 1 <;> exact decide_eq_decide.2 (by omega)
      by_cases h1 : (1 : Int) ≤ s.size
      · have k1 : decide ((1 : Int) ≤ s.size) = true := by simpa using h1
        have k1' : decide (1 ≤ s.size) = true := decide_eq_true (by omega)
        by_cases h2 : (s.size : Int) ≤ 16
        · have k2 : decide ((s.size : Int) ≤ 16) = true := by simpa using h2
          have hzz : isName s = true := by rw [hz, k1, k2]; rfl
          replace hz := Lib.hid hz; replace hzz := Lib.hid hzz
          go_wp2
          go_ret
          exact ⟨by rw [hzz.out]; rfl, hB.out⟩
        · have k2 : decide ((s.size : Int) ≤ 16) = false := by simpa using h2
          have hzz : isName s = false := by rw [hz, k1, k2]; rfl
          replace hz := Lib.hid hz; replace hzz := Lib.hid hzz
          go_wp2
          go_ret
          exact ⟨by rw [hzz.out]; rfl, hB.out⟩
      · have k1 : decide ((1 : Int) ≤ s.size) = false := by simpa using h1
        have k1' : decide (1 ≤ s.size) = false := decide_eq_false (by omega)
        have hzz : isName s = false := by rw [hz, k1]; rfl
        replace hz := Lib.hid hz; replace hzz := Lib.hid hzz
        go_wp2
        go_ret
        exact ⟨by rw [hzz.out]; rfl, hB.out⟩

set_option maxRecDepth 100000 in
set_option maxHeartbeats 1600000 in
theorem rname_any (s : ByteArray) (w : World) (hs : s.size ≤ maxLen) : Calls Tryd.prog 20 #[.string s] w fun e w' => e = .returned (.bool (isName s)) ∧ Below w.heap.size w w' := by
  have hix : ∀ (k : Nat), k < s.size → ∀ w, (Instr.index 9 (.string s) (.int .i64 (k : Int))).run Tryd.prog w = .ok (.int .u8 (chz s k)) w := fun k hk w => index_at Tryd.underlying9 s k k rfl hk w
  replace hix := Lib.hid hix
  by_cases h1 : s.size < 1
  · have k1 : decide ((s.size : Int) < 1) = true := decide_eq_true (by omega)
    have k1' : decide (s.size < 1) = true := decide_eq_true (by omega)
    have hzz : isName s = false := by unfold isName; rw [show decide (1 ≤ s.size) = false from decide_eq_false (by omega)]; rfl
    replace hzz := Lib.hid hzz; replace hs := Lib.hid hs
    go_enter Tryd.func20, Tryd.ntmps20
    go_wp2
    go_ret
    exact ⟨by rw [hzz.out]; rfl, Below.refl _ _⟩
  have k1 : decide ((s.size : Int) < 1) = false := decide_eq_false (by omega)
  have k1' : decide (s.size < 1) = false := decide_eq_false (by omega)
  by_cases h2 : 16 < s.size
  · have k2 : decide ((16 : Int) < s.size) = true := decide_eq_true (by omega)
    have k2' : decide (16 < s.size) = true := decide_eq_true (by omega)
    have hzz : isName s = false := by unfold isName; rw [show decide (s.size ≤ 16) = false from decide_eq_false (by omega)]; simp
    replace hzz := Lib.hid hzz; replace hs := Lib.hid hs
    go_enter Tryd.func20, Tryd.ntmps20
    go_wp2
    go_ret
    exact ⟨by rw [hzz.out]; rfl, Below.refl _ _⟩
  have k2 : decide ((16 : Int) < s.size) = false := decide_eq_false (by omega)
  have k2' : decide (16 < s.size) = false := decide_eq_false (by omega)
  go_enter Tryd.func20, Tryd.ntmps20
  go_wp2
  clear k1 k1' k2 k2'
  go_loopw [3, 4] (fun i _ wr => ∃ k : Nat, i = .int .i64 k ∧ k ≤ s.size ∧ Hid (nameTo s k = true) ∧ Hid (Below w.heap.size w wr)) (fun i _ _ => s.size - (intOf i).toNat)
  case atStart => exact ⟨0, rfl, Nat.zero_le _, rfl, Below.refl _ _⟩
  case round =>
    obtain ⟨k, rfl, hk, hy, hB⟩ := hrel
    by_cases hk1 : k < s.size
    · have hc1 : (k : Int) < s.size := by omega
      have hi1 := hix.out k hk1
      obtain ⟨c, hc⟩ : ∃ c, c = chz s k := ⟨_, rfl⟩
      rw [← hc] at hi1
      have hcs := ch_cases c
      rcases hcs with ⟨hch, h | h | h⟩ | ⟨hch, h | h | h⟩
      · have k1 : decide (97 ≤ c) = true := by simp; omega
        have k2 : decide (c ≤ 122) = true := by simp; omega
        have k3 : decide (48 ≤ c) = true := by simp; omega
        have k4 : decide (c ≤ 57) = false := by simp; omega
        have k5 : (c == 45) = false := by simp; try omega
        have hch' : nameCh (chz s k) = true := by rw [← hc]; exact hch
        replace hc := Lib.hid hc; replace hch := Lib.hid hch; replace hch' := Lib.hid hch'; replace h := Lib.hid h
        have hy2 : nameTo s (k + 1) = true := by simp only [nameTo, hy.out, hch'.out, Bool.and_self]
        replace hy2 := Lib.hid hy2
        go_wp2
        go_roundw
        case rel => exact ⟨k + 1, by go_num, by omega, hy2.out, hB.out⟩
        case measure => simp [intOf]; omega
      · have k1 : decide (97 ≤ c) = false := by simp; omega
        have k2 : decide (c ≤ 122) = true := by simp; omega
        have k3 : decide (48 ≤ c) = true := by simp; omega
        have k4 : decide (c ≤ 57) = true := by simp; omega
        have k5 : (c == 45) = false := by simp; try omega
        have hch' : nameCh (chz s k) = true := by rw [← hc]; exact hch
        replace hc := Lib.hid hc; replace hch := Lib.hid hch; replace hch' := Lib.hid hch'; replace h := Lib.hid h
        have hy2 : nameTo s (k + 1) = true := by simp only [nameTo, hy.out, hch'.out, Bool.and_self]
        replace hy2 := Lib.hid hy2
        go_wp2
        go_roundw
        case rel => exact ⟨k + 1, by go_num, by omega, hy2.out, hB.out⟩
        case measure => simp [intOf]; omega
      · have k1 : decide (97 ≤ c) = false := by simp; omega
        have k2 : decide (c ≤ 122) = true := by simp; omega
        have k3 : decide (48 ≤ c) = false := by simp; omega
        have k4 : decide (c ≤ 57) = true := by simp; omega
        have k5 : (c == 45) = true := by simp; try omega
        have hch' : nameCh (chz s k) = true := by rw [← hc]; exact hch
        replace hc := Lib.hid hc; replace hch := Lib.hid hch; replace hch' := Lib.hid hch'; replace h := Lib.hid h
        have hy2 : nameTo s (k + 1) = true := by simp only [nameTo, hy.out, hch'.out, Bool.and_self]
        replace hy2 := Lib.hid hy2
        go_wp2
        go_roundw
        case rel => exact ⟨k + 1, by go_num, by omega, hy2.out, hB.out⟩
        case measure => simp [intOf]; omega
      · have k1 : decide (97 ≤ c) = false := by simp; omega
        have k2 : decide (c ≤ 122) = true := by simp; omega
        have k3 : decide (48 ≤ c) = false := by simp; omega
        have k4 : decide (c ≤ 57) = true := by simp; omega
        have k5 : (c == 45) = false := by simp; try omega
        have hno : nameCh (chz s k) = false := by rw [← hc]; exact hch
        replace hc := Lib.hid hc; replace hch := Lib.hid hch; replace hno := Lib.hid hno; replace h := Lib.hid h
        have hz : isName s = false := by unfold isName; rw [nameTo_no hk1 hno.out]; simp
        replace hz := Lib.hid hz
        go_wp2
        go_ret
        exact ⟨by rw [hz.out]; rfl, hB.out⟩
      · have k1 : decide (97 ≤ c) = false := by simp; omega
        have k2 : decide (c ≤ 122) = true := by simp; omega
        have k3 : decide (48 ≤ c) = true := by simp; omega
        have k4 : decide (c ≤ 57) = false := by simp; omega
        have k5 : (c == 45) = false := by simp; try omega
        have hno : nameCh (chz s k) = false := by rw [← hc]; exact hch
        replace hc := Lib.hid hc; replace hch := Lib.hid hch; replace hno := Lib.hid hno; replace h := Lib.hid h
        have hz : isName s = false := by unfold isName; rw [nameTo_no hk1 hno.out]; simp
        replace hz := Lib.hid hz
        go_wp2
        go_ret
        exact ⟨by rw [hz.out]; rfl, hB.out⟩
      · have k1 : decide (97 ≤ c) = true := by simp; omega
        have k2 : decide (c ≤ 122) = false := by simp; omega
        have k3 : decide (48 ≤ c) = true := by simp; omega
        have k4 : decide (c ≤ 57) = false := by simp; omega
        have k5 : (c == 45) = false := by simp; try omega
        have hno : nameCh (chz s k) = false := by rw [← hc]; exact hch
        replace hc := Lib.hid hc; replace hch := Lib.hid hch; replace hno := Lib.hid hno; replace h := Lib.hid h
        have hz : isName s = false := by unfold isName; rw [nameTo_no hk1 hno.out]; simp
        replace hz := Lib.hid hz
        go_wp2
        go_ret
        exact ⟨by rw [hz.out]; rfl, hB.out⟩
    · have hc1 : ¬ (k : Int) < s.size := by omega
      have hkn : k = s.size := by omega
      subst hkn
      have hzz : isName s = true := by unfold isName; rw [hy.out]; simp; omega
      replace hzz := Lib.hid hzz
      go_wp2
      go_ret
      exact ⟨by rw [hzz.out]; rfl, hB.out⟩
end Go.Proofs.YteoihdkaoipocaaDoor
