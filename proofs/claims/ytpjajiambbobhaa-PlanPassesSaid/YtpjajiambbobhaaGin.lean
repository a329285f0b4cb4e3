/- corveeref01.In and Same: is a number in a row; are two rows the same. -/
import Derived.Test.YtpjajiambbobhaaPool
namespace Go.Proofs.Ytpjajiambbobhaa
open Go.RowKit

theorem mem_zi {zs : List Int} {x : Int} : x ∈ zs ↔ ∃ j, j < zs.length ∧ zi zs j = x := by
  constructor
  · intro h
    obtain ⟨i, hi, e⟩ := List.mem_iff_getElem.1 h
    exact ⟨i, hi, by simp [zi, List.getD, hi, e]⟩
  · rintro ⟨j, hj, e⟩
    rw [← e]
    simp [zi, List.getD, hj]
theorem zi_ext {xs ys : List Int} (hl : xs.length = ys.length) (h : ∀ j, j < xs.length → zi xs j = zi ys j) : xs = ys := by
  refine List.ext_getElem hl fun i h1 h2 => ?_
  have := h i h1
  simpa [zi, List.getD, h1, h2] using this

def InPost (zs : List Int) (x : Int) (w : World) (e : Ending) (w' : World) : Prop := ∃ b : Bool, e = .returned (.bool b) ∧ (b = true ↔ x ∈ zs) ∧ w' = w

set_option maxRecDepth 100000 in
set_option maxHeartbeats 800000 in
theorem in_any (ao : Option Addr) (n c : Nat) (zs : List Int) (x : Int) (w : World) (hz : IntsAt w ao n zs) : Calls Try.prog 38 #[.slice ao n c, .int .i64 x] w (InPost zs x w) := by
  have hlen := hz.len
  have hmax := hz.max
  replace hz := Lib.hid hz; replace hlen := Lib.hid hlen
  go_enter Try.func38, Try.ntmps38
  go_wp2
  go_loopw [5] (fun i wr => ∃ k : Nat, i = .int .i64 k ∧ k ≤ n ∧ Hid (∀ j, j < k → zi zs j ≠ x) ∧ wr = w) (fun i _ => n - (intOf i).toNat)
  case atStart => exact ⟨0, rfl, Nat.zero_le _, (fun j h => by omega), rfl⟩
  case round =>
    obtain ⟨k, rfl, hk, hall, rfl⟩ := hrel
    by_cases hc : k < n
    · have hc1 : (k : Int) < n := by omega
      have hk0 : (0 : Int) ≤ (k : Int) := by omega
      obtain ⟨b, off, rfl, hb, a0⟩ := hz.out.cell k hc
      obtain ⟨y, hy⟩ : ∃ y, y = zi zs k := ⟨_, rfl⟩
      rw [← hy] at a0
      by_cases q : y = x
      · have d : (y == x) = true := by simpa using q
        have hm : x ∈ zs := mem_zi.2 ⟨k, by rw [hlen.out]; exact hc, by rw [← hy]; exact q⟩
        replace hy := Lib.hid hy; replace q := Lib.hid q; replace hm := Lib.hid hm
        go_wp2
        go_ret
        exact ⟨true, rfl, ⟨fun _ => hm.out, fun _ => rfl⟩, rfl⟩
      · have d : (y == x) = false := by simpa using q
        have hn : ∀ j, j < k + 1 → zi zs j ≠ x := fun j hj => by
          by_cases e : j = k
          · subst e; rw [← hy]; exact q
          · exact hall.out j (by omega)
        replace hy := Lib.hid hy; replace q := Lib.hid q; replace hn := Lib.hid hn
        go_wp2
        go_roundw
        case rel => exact ⟨k + 1, by go_num, by omega, hn.out, trivial⟩
        case measure => simp [intOf]; omega
    · have hc1 : ¬ (k : Int) < n := by omega
      have hkn : k = n := by omega
      have hm : ¬ x ∈ zs := fun h => by
        obtain ⟨j, hj, e⟩ := mem_zi.1 h
        exact hall.out j (by rw [hlen.out] at hj; omega) e
      replace hkn := Lib.hid hkn; replace hm := Lib.hid hm
      go_wp2
      go_ret
      exact ⟨false, rfl, ⟨fun h => (by cases h), fun h => absurd h hm.out⟩, rfl⟩

def SameiPost (xs ys : List Int) (w : World) (e : Ending) (w' : World) : Prop := ∃ b : Bool, e = .returned (.bool b) ∧ (b = true ↔ xs = ys) ∧ Below w.heap.size w w'

set_option maxRecDepth 100000 in
set_option maxHeartbeats 800000 in
theorem samei_any (ao bo : Option Addr) (n m c c' : Nat) (xs ys : List Int) (w : World) (hx : IntsAt w ao n xs) (hy : IntsAt w bo m ys) : Calls Try.prog 41 #[.slice ao n c, .slice bo m c'] w (SameiPost xs ys w) := by
  have hlx := hx.len
  have hly := hy.len
  have hmx := hx.max
  by_cases q : n = m
  rotate_left
  · have d : ((n : Int) == (m : Int)) = false := by rw [beq_eq_false_iff_ne]; omega
    replace hx := Lib.hid hx; replace hy := Lib.hid hy; replace hlx := Lib.hid hlx; replace hly := Lib.hid hly; replace q := Lib.hid q
    go_enter Try.func41, Try.ntmps41
    go_wp2
    go_ret
    exact ⟨false, rfl, ⟨fun h => (by cases h), fun h => absurd (by rw [← hlx.out, ← hly.out, h]) q.out⟩, Below.refl _ _⟩
  subst q
  have d : ((n : Int) == (n : Int)) = true := by simp
  replace hx := Lib.hid hx; replace hy := Lib.hid hy; replace hlx := Lib.hid hlx; replace hly := Lib.hid hly
  go_enter Try.func41, Try.ntmps41
  go_wp2
  go_loopw [5] (fun i wr => ∃ k : Nat, i = .int .i64 k ∧ k ≤ n ∧ Hid (∀ j, j < k → zi xs j = zi ys j) ∧ Hid (Below w.heap.size w wr)) (fun i _ => n - (intOf i).toNat)
  case atStart => exact ⟨0, rfl, Nat.zero_le _, (fun j h => by omega), Below.refl _ _⟩
  case round =>
    obtain ⟨k, rfl, hk, hall, hB⟩ := hrel
    by_cases hc : k < n
    · have hc1 : (k : Int) < n := by omega
      have hk0 : (0 : Int) ≤ (k : Int) := by omega
      obtain ⟨b, off, rfl, hb, a0⟩ := hx.out.cell k hc
      obtain ⟨b', off', rfl, hb', a1⟩ := hy.out.cell k hc
      have b0 := (below_cell hB.out hb).trans a0
      have b1 := (below_cell hB.out hb').trans a1
      have hBd : Below w.heap.size w wr.drew := hB.out.drew
      clear a0 a1
      obtain ⟨y, hy1⟩ : ∃ y, y = zi xs k := ⟨_, rfl⟩
      obtain ⟨z, hz1⟩ : ∃ z, z = zi ys k := ⟨_, rfl⟩
      rw [← hy1] at b0
      rw [← hz1] at b1
      by_cases q : y = z
      · have d2 : (y == z) = true := by simpa using q
        have hn : ∀ j, j < k + 1 → zi xs j = zi ys j := fun j hj => by
          by_cases e : j = k
          · subst e; rw [← hy1, ← hz1]; exact q
          · exact hall.out j (by omega)
        replace hy1 := Lib.hid hy1; replace hz1 := Lib.hid hz1; replace q := Lib.hid q; replace hn := Lib.hid hn; replace hBd := Lib.hid hBd
        go_wp2
        go_quiet (fail)
        go_wp2
        go_roundw
        case rel => exact ⟨k + 1, by go_num, by omega, hn.out, ⟨hB.out.os, hB.out.tape, hB.out.output, hB.out.size, hB.out.block⟩⟩
        case measure => simp [intOf]; omega
      · have d2 : (y == z) = false := by simpa using q
        have hne : ¬ xs = ys := fun h => q (by rw [hy1, hz1, h])
        replace hy1 := Lib.hid hy1; replace hz1 := Lib.hid hz1; replace q := Lib.hid q; replace hne := Lib.hid hne; replace hBd := Lib.hid hBd
        go_wp2
        go_quiet (fail)
        go_wp2
        go_ret
        exact ⟨false, rfl, ⟨fun h => (by cases h), fun h => absurd h hne.out⟩, ⟨hB.out.os, hB.out.tape, hB.out.output, hB.out.size, hB.out.block⟩⟩
    · have hc1 : ¬ (k : Int) < n := by omega
      have he : xs = ys := zi_ext (by rw [hlx.out, hly.out]) fun j hj => hall.out j (by rw [hlx.out] at hj; omega)
      replace he := Lib.hid he
      go_wp2
      go_ret
      exact ⟨true, rfl, ⟨fun _ => he.out, fun _ => rfl⟩, hB.out⟩
end Go.Proofs.Ytpjajiambbobhaa
