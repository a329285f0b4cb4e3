/- Numbers in texts: vec.number, spec.number, corveeref03.Number. -/
import Derived.Test.YteoihdkaoipocaaDoorNam
namespace Go.Proofs.YteoihdkaoipocaaDoor
open Go.RowKit

def isDig (c : Int) : Bool := decide (48 ≤ c) && decide (c ≤ 57)
def digTo (s : ByteArray) : Nat → Bool
  | 0 => true
  | k + 1 => digTo s k && isDig (chz s k)
def numTo (s : ByteArray) : Nat → Int
  | 0 => 0
  | k + 1 => 10 * numTo s k + (chz s k - 48)
/-- the number of a text of at most so many digits; -1: none -/
def numOf (s : ByteArray) (d : Nat) : Int :=
  if s.size = 0 ∨ d < s.size ∨ (1 < s.size ∧ chz s 0 = 48) then -1 else if digTo s s.size = true then numTo s s.size else -1
theorem digTo_le {s : ByteArray} {k n : Nat} (h : digTo s n = true) (hk : k ≤ n) : digTo s k = true := by
  induction n with
  | zero => have : k = 0 := by omega
            subst this; rfl
  | succ n ih =>
    simp only [digTo, Bool.and_eq_true] at h
    by_cases c : k = n + 1
    · subst c; simp [digTo, h]
    · exact ih h.1 (by omega)
theorem digTo_no {s : ByteArray} {k : Nat} (hk : k < s.size) (h : isDig (chz s k) = false) : ¬ digTo s s.size = true := by
  intro c
  have := digTo_le c (show k + 1 ≤ s.size by omega)
  simp [digTo, h] at this
theorem isDig_iff {c : Int} : isDig c = true ↔ 48 ≤ c ∧ c ≤ 57 := by simp [isDig]
theorem numTo_bd {s : ByteArray} {k : Nat} (h : digTo s k = true) : 0 ≤ numTo s k ∧ numTo s k < 10 ^ k := by
  induction k with
  | zero => simp [numTo]
  | succ k ih =>
    simp only [digTo, Bool.and_eq_true] at h
    obtain ⟨h1, h2⟩ := ih h.1
    obtain ⟨h3, h4⟩ := isDig_iff.1 h.2
    rw [Int.pow_succ]
    simp only [numTo]
    omega
theorem numTo_13 {s : ByteArray} {k : Nat} (h : digTo s k = true) (hk : k ≤ 13) : 0 ≤ numTo s k ∧ numTo s k < 10000000000000 := by
  obtain ⟨h1, h2⟩ := numTo_bd h
  refine ⟨h1, Int.lt_of_lt_of_le h2 ?_⟩
  rcases (show k = 0 ∨ k = 1 ∨ k = 2 ∨ k = 3 ∨ k = 4 ∨ k = 5 ∨ k = 6 ∨ k = 7 ∨ k = 8 ∨ k = 9 ∨ k = 10 ∨ k = 11 ∨ k = 12 ∨ k = 13 by omega) with rfl | rfl | rfl | rfl | rfl | rfl | rfl | rfl | rfl | rfl | rfl | rfl | rfl | rfl <;> decide

set_option maxRecDepth 100000 in
set_option maxHeartbeats 3200000 in
theorem vnum_any (s : ByteArray) (w : World) (hs : s.size ≤ maxLen) : Calls Tryd.prog 137 #[.string s] w fun e w' => e = .returned (.int .i64 (numOf s 10)) ∧ Below w.heap.size w w' := by
  have hix : ∀ (k : Nat), k < s.size → ∀ w, (Instr.index 9 (.string s) (.int .i64 (k : Int))).run Tryd.prog w = .ok (.int .u8 (chz s k)) w := fun k hk w => index_at Tryd.underlying9 s k k rfl hk w
  have hsz : decide ((s.size : Int) = 0) = decide (s.size = 0) := decide_eq_decide.2 (by omega)
  by_cases h0 : s.size = 0
  · have k0 : ((s.size : Int) == 0) = true := by rw [h0]; rfl
    have k0' : decide ((s.size : Int) < 1) = true := decide_eq_true (by omega)
    have k0n : decide (s.size < 1) = true := decide_eq_true (by omega)
    have hz : numOf s 10 = -1 := by unfold numOf; rw [if_pos (.inl h0)]
    replace h0 := Lib.hid h0; replace hz := Lib.hid hz; replace hs := Lib.hid hs; replace hix := Lib.hid hix; replace hsz := Lib.hid hsz
    go_enter Tryd.func137, Tryd.ntmps137
    go_wp2
    go_ret
    exact ⟨by rw [hz.out]; rfl, Below.refl _ _⟩
  have k0 : ((s.size : Int) == 0) = false := by simp only [beq_eq_false_iff_ne]; omega
  have k0' : decide ((s.size : Int) < 1) = false := decide_eq_false (by omega)
  have k0n : decide (s.size < 1) = false := decide_eq_false (by omega)
  by_cases h1 : 10 < s.size
  · have k1 : decide ((10 : Int) < s.size) = true := decide_eq_true (by omega)
    have hz : numOf s 10 = -1 := by unfold numOf; rw [if_pos (.inr (.inl h1))]
    replace h0 := Lib.hid h0; replace hz := Lib.hid hz; replace hs := Lib.hid hs; replace hix := Lib.hid hix; replace hsz := Lib.hid hsz
    go_enter Tryd.func137, Tryd.ntmps137
    go_wp2
    go_ret
    exact ⟨by rw [hz.out]; rfl, Below.refl _ _⟩
  have k1 : decide ((10 : Int) < s.size) = false := decide_eq_false (by omega)
  have k1n : decide (10 < s.size) = false := decide_eq_false h1
  have hi0 : ∀ w, (Instr.index 9 (.string s) (.int .i64 0)).run Tryd.prog w = .ok (.int .u8 (chz s 0)) w := hix 0 (by omega)
  obtain ⟨c0, hc0⟩ : ∃ c, c = chz s 0 := ⟨_, rfl⟩
  rw [← hc0] at hi0
  by_cases h2 : 1 < s.size ∧ c0 = 48
  · have k2 : decide ((1 : Int) < s.size) = true := decide_eq_true (by omega)
    have k3 : (c0 == 48) = true := by simp [h2.2]
    have hz : numOf s 10 = -1 := by unfold numOf; rw [if_pos (.inr (.inr (by rw [← hc0]; exact h2)))]
    replace h0 := Lib.hid h0; replace h1 := Lib.hid h1; replace h2 := Lib.hid h2; replace hz := Lib.hid hz; replace hs := Lib.hid hs; replace hix := Lib.hid hix; replace hsz := Lib.hid hsz; replace hc0 := Lib.hid hc0
    go_enter Tryd.func137, Tryd.ntmps137
    go_wp2
    go_ret
    exact ⟨by rw [hz.out]; rfl, Below.refl _ _⟩
  have hsp : decide ((1 : Int) < s.size) = false ∨ (decide ((1 : Int) < s.size) = true ∧ (c0 == 48) = false) := by
    by_cases c : 1 < s.size
    · refine .inr ⟨decide_eq_true (by omega), ?_⟩
      simp only [beq_eq_false_iff_ne]; intro e; exact h2 ⟨c, e⟩
    · exact .inl (decide_eq_false (by omega))
  have hne : ¬ (s.size = 0 ∨ 10 < s.size ∨ (1 < s.size ∧ chz s 0 = 48)) := by rw [← hc0]; omega
  have h13 : s.size ≤ 13 := by omega
  have hmx : s.size ≤ 13 := by omega
  clear h2 h1 h0 hs
  replace hix := Lib.hid hix; replace hne := Lib.hid hne; replace h13 := Lib.hid h13; replace hsz := Lib.hid hsz; replace hc0 := Lib.hid hc0
  rcases hsp with k2 | ⟨k2, k3⟩
  all_goals
    go_enter Tryd.func137, Tryd.ntmps137
    go_wp2
    go_loopw [3, 4, 25] (fun n _ i wr => ∃ k : Nat, i = .int .i64 k ∧ n = .int .i64 (numTo s k) ∧ k ≤ s.size ∧ Hid (digTo s k = true) ∧ Hid (Below w.heap.size w wr)) (fun _ _ i _ => s.size - (intOf i).toNat)
    case atStart => exact ⟨0, rfl, rfl, Nat.zero_le _, rfl, Below.refl _ _⟩
    case round =>
      obtain ⟨k, rfl, rfl, hk, hy, hB⟩ := hrel
      clear k0 k0' k0n k1 k1n hi0
      try clear k3
      clear k2
      by_cases hk1 : k < s.size
      · have hc1 : (k : Int) < s.size := by omega
        have hi1 := hix.out k hk1
        obtain ⟨c, hc⟩ : ∃ c, c = chz s k := ⟨_, rfl⟩
        rw [← hc] at hi1
        by_cases hd : isDig c = true
        · obtain ⟨q1, q2⟩ := isDig_iff.1 hd
          have k1 : decide (c < 48) = false := decide_eq_false (by omega)
          have k2 : decide (57 < c) = false := decide_eq_false (by omega)
          have hy2 : digTo s (k + 1) = true := by simp only [digTo, hy.out, ← hc, hd, Bool.and_self]
          obtain ⟨n, hn⟩ : ∃ n, n = numTo s k := ⟨_, rfl⟩
          rw [← hn]
          have hbd := numTo_13 hy.out (by have := h13.out; omega)
          rw [← hn] at hbd
          have ew1 : IntKind.i64.wrap (n * 10) = n * 10 := IntWalk.i64_in _ (by omega)
          have ew1' : IntKind.i64.wrap (10 * n) = 10 * n := IntWalk.i64_in _ (by omega)
          have ew2 : IntKind.u8.wrap (c - 48) = c - 48 := IntWalk.u8_in _ (by omega)
          have ew3 : IntKind.i64.wrap (c - 48) = c - 48 := IntWalk.i64_in _ (by omega)
          have ew4 : IntKind.i64.wrap (n * 10 + (c - 48)) = n * 10 + (c - 48) := IntWalk.i64_in _ (by omega)
          have ew4' : IntKind.i64.wrap (10 * n + (c - 48)) = 10 * n + (c - 48) := IntWalk.i64_in _ (by omega)
          have hn2 : numTo s (k + 1) = 10 * n + (c - 48) := by simp only [numTo, ← hn, ← hc]
          replace hc := Lib.hid hc; replace hd := Lib.hid hd; replace q1 := Lib.hid q1; replace q2 := Lib.hid q2; replace hy2 := Lib.hid hy2; replace hn := Lib.hid hn; replace hbd := Lib.hid hbd; replace hn2 := Lib.hid hn2
          go_wp2
          go_roundw
          case rel => exact ⟨k + 1, by go_num, by first | rfl | (rw [hn2.out]; done) | (rw [hn2.out]; go_num) | (rw [hn2.out]; congr 1; omega) | (rw [hn2.out]; congr 1), by omega, hy2.out, hB.out⟩
          case measure => simp [intOf]; omega
        · have hno : isDig (chz s k) = false := by rw [← hc]; simpa using hd
          have hz : numOf s 10 = -1 := by unfold numOf; rw [if_neg hne.out, if_neg (digTo_no hk1 hno)]
          have hdd : c < 48 ∨ 57 < c := by
            apply Classical.byContradiction; intro q
            exact hd (isDig_iff.2 (by omega))
          replace hc := Lib.hid hc; replace hd := Lib.hid hd; replace hno := Lib.hid hno; replace hz := Lib.hid hz
          rcases hdd with q | q
          · have k1 : decide (c < 48) = true := decide_eq_true q
            go_wp2
            go_ret
            exact ⟨by rw [hz.out]; rfl, hB.out⟩
          · have k1 : decide (c < 48) = false := decide_eq_false (by omega)
            have k2 : decide (57 < c) = true := decide_eq_true q
            go_wp2
            go_ret
            exact ⟨by rw [hz.out]; rfl, hB.out⟩
      · have hc1 : ¬ (k : Int) < s.size := by omega
        have hkn : k = s.size := by omega
        subst hkn
        have hz : numOf s 10 = numTo s s.size := by unfold numOf; rw [if_neg hne.out, if_pos hy.out]
        replace hz := Lib.hid hz
        go_wp2
        go_ret
        exact ⟨by rw [hz.out]; rfl, hB.out⟩
set_option maxRecDepth 100000 in
set_option maxHeartbeats 3200000 in
theorem snum_any (s : ByteArray) (w : World) (hs : s.size ≤ maxLen) : Calls Tryd.prog 140 #[.string s] w fun e w' => e = .returned (.int .i64 (numOf s 13)) ∧ Below w.heap.size w w' := by
  have hix : ∀ (k : Nat), k < s.size → ∀ w, (Instr.index 9 (.string s) (.int .i64 (k : Int))).run Tryd.prog w = .ok (.int .u8 (chz s k)) w := fun k hk w => index_at Tryd.underlying9 s k k rfl hk w
  have hsz : decide ((s.size : Int) = 0) = decide (s.size = 0) := decide_eq_decide.2 (by omega)
  by_cases h0 : s.size = 0
  · have k0 : ((s.size : Int) == 0) = true := by rw [h0]; rfl
    have k0' : decide ((s.size : Int) < 1) = true := decide_eq_true (by omega)
    have k0n : decide (s.size < 1) = true := decide_eq_true (by omega)
    have hz : numOf s 13 = -1 := by unfold numOf; rw [if_pos (.inl h0)]
    replace h0 := Lib.hid h0; replace hz := Lib.hid hz; replace hs := Lib.hid hs; replace hix := Lib.hid hix; replace hsz := Lib.hid hsz
    go_enter Tryd.func140, Tryd.ntmps140
    go_wp2
    go_ret
    exact ⟨by rw [hz.out]; rfl, Below.refl _ _⟩
  have k0 : ((s.size : Int) == 0) = false := by simp only [beq_eq_false_iff_ne]; omega
  have k0' : decide ((s.size : Int) < 1) = false := decide_eq_false (by omega)
  have k0n : decide (s.size < 1) = false := decide_eq_false (by omega)
  by_cases h1 : 13 < s.size
  · have k1 : decide ((13 : Int) < s.size) = true := decide_eq_true (by omega)
    have hz : numOf s 13 = -1 := by unfold numOf; rw [if_pos (.inr (.inl h1))]
    replace h0 := Lib.hid h0; replace hz := Lib.hid hz; replace hs := Lib.hid hs; replace hix := Lib.hid hix; replace hsz := Lib.hid hsz
    go_enter Tryd.func140, Tryd.ntmps140
    go_wp2
    go_ret
    exact ⟨by rw [hz.out]; rfl, Below.refl _ _⟩
  have k1 : decide ((13 : Int) < s.size) = false := decide_eq_false (by omega)
  have k1n : decide (13 < s.size) = false := decide_eq_false h1
  have hi0 : ∀ w, (Instr.index 9 (.string s) (.int .i64 0)).run Tryd.prog w = .ok (.int .u8 (chz s 0)) w := hix 0 (by omega)
  obtain ⟨c0, hc0⟩ : ∃ c, c = chz s 0 := ⟨_, rfl⟩
  rw [← hc0] at hi0
  by_cases h2 : 1 < s.size ∧ c0 = 48
  · have k2 : decide ((1 : Int) < s.size) = true := decide_eq_true (by omega)
    have k3 : (c0 == 48) = true := by simp [h2.2]
    have hz : numOf s 13 = -1 := by unfold numOf; rw [if_pos (.inr (.inr (by rw [← hc0]; exact h2)))]
    replace h0 := Lib.hid h0; replace h1 := Lib.hid h1; replace h2 := Lib.hid h2; replace hz := Lib.hid hz; replace hs := Lib.hid hs; replace hix := Lib.hid hix; replace hsz := Lib.hid hsz; replace hc0 := Lib.hid hc0
    go_enter Tryd.func140, Tryd.ntmps140
    go_wp2
    go_ret
    exact ⟨by rw [hz.out]; rfl, Below.refl _ _⟩
  have hsp : decide ((1 : Int) < s.size) = false ∨ (decide ((1 : Int) < s.size) = true ∧ (c0 == 48) = false) := by
    by_cases c : 1 < s.size
    · refine .inr ⟨decide_eq_true (by omega), ?_⟩
      simp only [beq_eq_false_iff_ne]; intro e; exact h2 ⟨c, e⟩
    · exact .inl (decide_eq_false (by omega))
  have hne : ¬ (s.size = 0 ∨ 13 < s.size ∨ (1 < s.size ∧ chz s 0 = 48)) := by rw [← hc0]; omega
  have h13 : s.size ≤ 13 := by omega
  have hmx : s.size ≤ 13 := by omega
  clear h2 h1 h0 hs
  replace hix := Lib.hid hix; replace hne := Lib.hid hne; replace h13 := Lib.hid h13; replace hsz := Lib.hid hsz; replace hc0 := Lib.hid hc0
  rcases hsp with k2 | ⟨k2, k3⟩
  all_goals
    go_enter Tryd.func140, Tryd.ntmps140
    go_wp2
    go_loopw [3, 4, 25] (fun n _ i wr => ∃ k : Nat, i = .int .i64 k ∧ n = .int .i64 (numTo s k) ∧ k ≤ s.size ∧ Hid (digTo s k = true) ∧ Hid (Below w.heap.size w wr)) (fun _ _ i _ => s.size - (intOf i).toNat)
    case atStart => exact ⟨0, rfl, rfl, Nat.zero_le _, rfl, Below.refl _ _⟩
    case round =>
      obtain ⟨k, rfl, rfl, hk, hy, hB⟩ := hrel
      clear k0 k0' k0n k1 k1n hi0
      try clear k3
      clear k2
      by_cases hk1 : k < s.size
      · have hc1 : (k : Int) < s.size := by omega
        have hi1 := hix.out k hk1
        obtain ⟨c, hc⟩ : ∃ c, c = chz s k := ⟨_, rfl⟩
        rw [← hc] at hi1
        by_cases hd : isDig c = true
        · obtain ⟨q1, q2⟩ := isDig_iff.1 hd
          have k1 : decide (c < 48) = false := decide_eq_false (by omega)
          have k2 : decide (57 < c) = false := decide_eq_false (by omega)
          have hy2 : digTo s (k + 1) = true := by simp only [digTo, hy.out, ← hc, hd, Bool.and_self]
          obtain ⟨n, hn⟩ : ∃ n, n = numTo s k := ⟨_, rfl⟩
          rw [← hn]
          have hbd := numTo_13 hy.out (by have := h13.out; omega)
          rw [← hn] at hbd
          have ew1 : IntKind.i64.wrap (n * 10) = n * 10 := IntWalk.i64_in _ (by omega)
          have ew1' : IntKind.i64.wrap (10 * n) = 10 * n := IntWalk.i64_in _ (by omega)
          have ew2 : IntKind.u8.wrap (c - 48) = c - 48 := IntWalk.u8_in _ (by omega)
          have ew3 : IntKind.i64.wrap (c - 48) = c - 48 := IntWalk.i64_in _ (by omega)
          have ew4 : IntKind.i64.wrap (n * 10 + (c - 48)) = n * 10 + (c - 48) := IntWalk.i64_in _ (by omega)
          have ew4' : IntKind.i64.wrap (10 * n + (c - 48)) = 10 * n + (c - 48) := IntWalk.i64_in _ (by omega)
          have hn2 : numTo s (k + 1) = 10 * n + (c - 48) := by simp only [numTo, ← hn, ← hc]
          replace hc := Lib.hid hc; replace hd := Lib.hid hd; replace q1 := Lib.hid q1; replace q2 := Lib.hid q2; replace hy2 := Lib.hid hy2; replace hn := Lib.hid hn; replace hbd := Lib.hid hbd; replace hn2 := Lib.hid hn2
          go_wp2
          go_roundw
          case rel => exact ⟨k + 1, by go_num, by first | rfl | (rw [hn2.out]; done) | (rw [hn2.out]; go_num) | (rw [hn2.out]; congr 1; omega) | (rw [hn2.out]; congr 1), by omega, hy2.out, hB.out⟩
          case measure => simp [intOf]; omega
        · have hno : isDig (chz s k) = false := by rw [← hc]; simpa using hd
          have hz : numOf s 13 = -1 := by unfold numOf; rw [if_neg hne.out, if_neg (digTo_no hk1 hno)]
          have hdd : c < 48 ∨ 57 < c := by
            apply Classical.byContradiction; intro q
            exact hd (isDig_iff.2 (by omega))
          replace hc := Lib.hid hc; replace hd := Lib.hid hd; replace hno := Lib.hid hno; replace hz := Lib.hid hz
          rcases hdd with q | q
          · have k1 : decide (c < 48) = true := decide_eq_true q
            go_wp2
            go_ret
            exact ⟨by rw [hz.out]; rfl, hB.out⟩
          · have k1 : decide (c < 48) = false := decide_eq_false (by omega)
            have k2 : decide (57 < c) = true := decide_eq_true q
            go_wp2
            go_ret
            exact ⟨by rw [hz.out]; rfl, hB.out⟩
      · have hc1 : ¬ (k : Int) < s.size := by omega
        have hkn : k = s.size := by omega
        subst hkn
        have hz : numOf s 13 = numTo s s.size := by unfold numOf; rw [if_neg hne.out, if_pos hy.out]
        replace hz := Lib.hid hz
        go_wp2
        go_ret
        exact ⟨by rw [hz.out]; rfl, hB.out⟩
set_option maxRecDepth 100000 in
set_option maxHeartbeats 3200000 in
theorem rnum_any (s : ByteArray) (d : Nat) (w : World) (hs : s.size ≤ maxLen) (hd13 : d ≤ 13) : Calls Tryd.prog 143 #[.string s, .int .i64 (d : Int)] w fun e w' => e = .returned (.int .i64 (numOf s d)) ∧ Below w.heap.size w w' := by
  have hix : ∀ (k : Nat), k < s.size → ∀ w, (Instr.index 9 (.string s) (.int .i64 (k : Int))).run Tryd.prog w = .ok (.int .u8 (chz s k)) w := fun k hk w => index_at Tryd.underlying9 s k k rfl hk w
  have hsz : decide ((s.size : Int) = 0) = decide (s.size = 0) := decide_eq_decide.2 (by omega)
  by_cases h0 : s.size = 0
  · have k0 : ((s.size : Int) == 0) = true := by rw [h0]; rfl
    have k0' : decide ((s.size : Int) < 1) = true := decide_eq_true (by omega)
    have k0n : decide (s.size < 1) = true := decide_eq_true (by omega)
    have hz : numOf s d = -1 := by unfold numOf; rw [if_pos (.inl h0)]
    replace h0 := Lib.hid h0; replace hz := Lib.hid hz; replace hs := Lib.hid hs; replace hix := Lib.hid hix; replace hsz := Lib.hid hsz
    go_enter Tryd.func143, Tryd.ntmps143
    go_wp2
    go_ret
    exact ⟨by rw [hz.out]; rfl, Below.refl _ _⟩
  have k0 : ((s.size : Int) == 0) = false := by simp only [beq_eq_false_iff_ne]; omega
  have k0' : decide ((s.size : Int) < 1) = false := decide_eq_false (by omega)
  have k0n : decide (s.size < 1) = false := decide_eq_false (by omega)
  by_cases h1 : d < s.size
  · have k1 : decide ((d : Int) < s.size) = true := decide_eq_true (by omega)
    have hz : numOf s d = -1 := by unfold numOf; rw [if_pos (.inr (.inl h1))]
    replace h0 := Lib.hid h0; replace hz := Lib.hid hz; replace hs := Lib.hid hs; replace hix := Lib.hid hix; replace hsz := Lib.hid hsz
    go_enter Tryd.func143, Tryd.ntmps143
    go_wp2
    go_ret
    exact ⟨by rw [hz.out]; rfl, Below.refl _ _⟩
  have k1 : decide ((d : Int) < s.size) = false := decide_eq_false (by omega)
  have k1n : decide (d < s.size) = false := decide_eq_false h1
  have hi0 : ∀ w, (Instr.index 9 (.string s) (.int .i64 0)).run Tryd.prog w = .ok (.int .u8 (chz s 0)) w := hix 0 (by omega)
  obtain ⟨c0, hc0⟩ : ∃ c, c = chz s 0 := ⟨_, rfl⟩
  rw [← hc0] at hi0
  by_cases h2 : 1 < s.size ∧ c0 = 48
  · have k2 : decide ((1 : Int) < s.size) = true := decide_eq_true (by omega)
    have k3 : (c0 == 48) = true := by simp [h2.2]
    have hz : numOf s d = -1 := by unfold numOf; rw [if_pos (.inr (.inr (by rw [← hc0]; exact h2)))]
    replace h0 := Lib.hid h0; replace h1 := Lib.hid h1; replace h2 := Lib.hid h2; replace hz := Lib.hid hz; replace hs := Lib.hid hs; replace hix := Lib.hid hix; replace hsz := Lib.hid hsz; replace hc0 := Lib.hid hc0
    go_enter Tryd.func143, Tryd.ntmps143
    go_wp2
    go_ret
    exact ⟨by rw [hz.out]; rfl, Below.refl _ _⟩
  have hsp : decide ((1 : Int) < s.size) = false ∨ (decide ((1 : Int) < s.size) = true ∧ (c0 == 48) = false) := by
    by_cases c : 1 < s.size
    · refine .inr ⟨decide_eq_true (by omega), ?_⟩
      simp only [beq_eq_false_iff_ne]; intro e; exact h2 ⟨c, e⟩
    · exact .inl (decide_eq_false (by omega))
  have hne : ¬ (s.size = 0 ∨ d < s.size ∨ (1 < s.size ∧ chz s 0 = 48)) := by rw [← hc0]; omega
  have h13 : s.size ≤ 13 := by omega
  have hmx : s.size ≤ 13 := by omega
  clear h2 h1 h0 hs
  replace hix := Lib.hid hix; replace hne := Lib.hid hne; replace h13 := Lib.hid h13; replace hsz := Lib.hid hsz; replace hc0 := Lib.hid hc0
  rcases hsp with k2 | ⟨k2, k3⟩
  all_goals
    go_enter Tryd.func143, Tryd.ntmps143
    go_wp2
    go_loopw [5, 6] (fun n i wr => ∃ k : Nat, i = .int .i64 k ∧ n = .int .i64 (numTo s k) ∧ k ≤ s.size ∧ Hid (digTo s k = true) ∧ Hid (Below w.heap.size w wr)) (fun _ i _ => s.size - (intOf i).toNat)
    case atStart => exact ⟨0, rfl, rfl, Nat.zero_le _, rfl, Below.refl _ _⟩
    case round =>
      obtain ⟨k, rfl, rfl, hk, hy, hB⟩ := hrel
      clear k0 k0' k0n k1 k1n hi0
      try clear k3
      clear k2
      by_cases hk1 : k < s.size
      · have hc1 : (k : Int) < s.size := by omega
        have hi1 := hix.out k hk1
        obtain ⟨c, hc⟩ : ∃ c, c = chz s k := ⟨_, rfl⟩
        rw [← hc] at hi1
        by_cases hd : isDig c = true
        · obtain ⟨q1, q2⟩ := isDig_iff.1 hd
          have k1 : decide (c < 48) = false := decide_eq_false (by omega)
          have k2 : decide (57 < c) = false := decide_eq_false (by omega)
          have hy2 : digTo s (k + 1) = true := by simp only [digTo, hy.out, ← hc, hd, Bool.and_self]
          obtain ⟨n, hn⟩ : ∃ n, n = numTo s k := ⟨_, rfl⟩
          rw [← hn]
          have hbd := numTo_13 hy.out (by have := h13.out; omega)
          rw [← hn] at hbd
          have ew1 : IntKind.i64.wrap (n * 10) = n * 10 := IntWalk.i64_in _ (by omega)
          have ew1' : IntKind.i64.wrap (10 * n) = 10 * n := IntWalk.i64_in _ (by omega)
          have ew2 : IntKind.u8.wrap (c - 48) = c - 48 := IntWalk.u8_in _ (by omega)
          have ew3 : IntKind.i64.wrap (c - 48) = c - 48 := IntWalk.i64_in _ (by omega)
          have ew4 : IntKind.i64.wrap (n * 10 + (c - 48)) = n * 10 + (c - 48) := IntWalk.i64_in _ (by omega)
          have ew4' : IntKind.i64.wrap (10 * n + (c - 48)) = 10 * n + (c - 48) := IntWalk.i64_in _ (by omega)
          have hn2 : numTo s (k + 1) = 10 * n + (c - 48) := by simp only [numTo, ← hn, ← hc]
          replace hc := Lib.hid hc; replace hd := Lib.hid hd; replace q1 := Lib.hid q1; replace q2 := Lib.hid q2; replace hy2 := Lib.hid hy2; replace hn := Lib.hid hn; replace hbd := Lib.hid hbd; replace hn2 := Lib.hid hn2
          go_wp2
          go_roundw
          case rel => exact ⟨k + 1, by go_num, by first | rfl | (rw [hn2.out]; done) | (rw [hn2.out]; go_num) | (rw [hn2.out]; congr 1; omega) | (rw [hn2.out]; congr 1), by omega, hy2.out, hB.out⟩
          case measure => simp [intOf]; omega
        · have hno : isDig (chz s k) = false := by rw [← hc]; simpa using hd
          have hz : numOf s d = -1 := by unfold numOf; rw [if_neg hne.out, if_neg (digTo_no hk1 hno)]
          have hdd : c < 48 ∨ 57 < c := by
            apply Classical.byContradiction; intro q
            exact hd (isDig_iff.2 (by omega))
          replace hc := Lib.hid hc; replace hd := Lib.hid hd; replace hno := Lib.hid hno; replace hz := Lib.hid hz
          rcases hdd with q | q
          · have k1 : decide (c < 48) = true := decide_eq_true q
            go_wp2
            go_ret
            exact ⟨by rw [hz.out]; rfl, hB.out⟩
          · have k1 : decide (c < 48) = false := decide_eq_false (by omega)
            have k2 : decide (57 < c) = true := decide_eq_true q
            go_wp2
            go_ret
            exact ⟨by rw [hz.out]; rfl, hB.out⟩
      · have hc1 : ¬ (k : Int) < s.size := by omega
        have hkn : k = s.size := by omega
        subst hkn
        have hz : numOf s d = numTo s s.size := by unfold numOf; rw [if_neg hne.out, if_pos hy.out]
        replace hz := Lib.hid hz
        go_wp2
        go_ret
        exact ⟨by rw [hz.out]; rfl, hB.out⟩
end Go.Proofs.YteoihdkaoipocaaDoor
