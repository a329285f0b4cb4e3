/- corveeref05.has, Twice, Texts; corveeref01.Same. -/
import Derived.Test.YteoihdkaoipocaaDoorFct
namespace Go.Proofs.YteoihdkaoipocaaDoor
open Go.RowKit Go.Maps Go.Shelf

theorem str_eq {p q : ByteArray} (h : p = q) : (p.toList == q.toList) = true := by rw [h]; simp
theorem str_ne {p q : ByteArray} (h : p ≠ q) : (p.toList == q.toList) = false := by
  simp only [beq_eq_false_iff_ne]
  intro e
  rw [Lib.toList_data, Lib.toList_data] at e
  exact h (toL_inj e)
theorem str_eqn {p q : ByteArray} (h : p = q) : (p.toList != q.toList) = false := by simp [bne, str_eq h]
theorem str_nen {p q : ByteArray} (h : p ≠ q) : (p.toList != q.toList) = true := by simp [bne, str_ne h]

set_option maxRecDepth 100000 in
set_option maxHeartbeats 800000 in
theorem has_any (so : Option Addr) (n c : Nat) (xs : List ByteArray) (x : ByteArray) (w : World) (h : StrsAt w so n xs) : Calls Tryd.prog 123 #[.slice so n c, .string x] w fun e w' => e = .returned (.bool (memB xs x)) ∧ w' = w := by
  have hlen := h.len
  have hmax := h.max
  replace h := Lib.hid h; replace hlen := Lib.hid hlen
  go_enter Tryd.func123, Tryd.ntmps123
  go_wp2
  go_loopw [5] (fun i wr => ∃ k : Nat, i = .int .i64 k ∧ k ≤ n ∧ Hid (∀ j, j < k → xs[j]? ≠ some x) ∧ wr = w) (fun i _ => n - (intOf i).toNat)
  case atStart => exact ⟨0, rfl, Nat.zero_le _, (fun j h => by omega), rfl⟩
  case round =>
    obtain ⟨k, rfl, hk, hall, rfl⟩ := hrel
    by_cases hc : k < n
    · have hc1 : (k : Int) < n := by omega
      have hk0 : (0 : Int) ≤ (k : Int) := by omega
      obtain ⟨y, hy⟩ := h.out.get hc
      obtain ⟨b, off, rfl, hb, a0⟩ := h.out.cell k y hy
      by_cases q : y = x
      · have d := str_eq q
        have hm : memB xs x = true := memB_iff.2 (by rw [← q]; exact List.mem_of_getElem? hy)
        replace hy := Lib.hid hy; replace q := Lib.hid q; replace hm := Lib.hid hm
        go_wp2
        go_ret
        exact ⟨by rw [hm.out]; rfl, rfl⟩
      · have d := str_ne q
        have hn : ∀ j, j < k + 1 → xs[j]? ≠ some x := fun j hj e => by
          by_cases c : j = k
          · subst c; rw [hy] at e; exact q (Option.some.inj e)
          · exact hall.out j (by omega) e
        replace hy := Lib.hid hy; replace q := Lib.hid q; replace hn := Lib.hid hn
        go_wp2
        go_roundw
        case rel => exact ⟨k + 1, by go_num, by omega, hn.out, trivial⟩
        case measure => simp [intOf]; omega
    · have hc1 : ¬ (k : Int) < n := by omega
      have hm : memB xs x = false := by
        rw [Bool.eq_false_iff]
        intro c
        obtain ⟨j, hj, e⟩ := List.mem_iff_getElem.1 (memB_iff.1 c)
        have hl := hlen.out
        exact hall.out j (by omega) (by rw [List.getElem?_eq_getElem hj, e])
      replace hm := Lib.hid hm
      go_wp2
      go_ret
      exact ⟨by rw [hm.out]; rfl, rfl⟩

def TwicePost (xs : List ByteArray) (w : World) (e : Ending) (w' : World) : Prop := e = .returned (.bool (twiceL xs)) ∧ Below w.heap.size w w'
set_option maxRecDepth 100000 in
set_option maxHeartbeats 1600000 in
theorem twice_any (so : Option Addr) (n c : Nat) (xs : List ByteArray) (w : World) (h : StrsAt w so n xs) : Calls Tryd.prog 36 #[.slice so n c] w (TwicePost xs w) := by
  have hlen := h.len
  have hmax := h.max
  replace h := Lib.hid h; replace hlen := Lib.hid hlen
  go_enter Tryd.func36, Tryd.ntmps36
  go_wp2
  go_loopw [3] (fun i wr => ∃ k : Nat, i = .int .i64 k ∧ k ≤ n ∧ Hid (¬ DupTo xs k) ∧ Hid (Below w.heap.size w wr)) (fun i _ => n - (intOf i).toNat)
  case atStart => exact ⟨0, rfl, Nat.zero_le _, (fun ⟨i, j, s, h1, h2, _⟩ => absurd h2 (Nat.not_lt_zero _)), Below.refl _ _⟩
  case round =>
    obtain ⟨k, rfl, hk, hD, hB⟩ := hrel
    by_cases hc : k < n
    · have hc1 : (k : Int) < n := by omega
      have hk0 : (0 : Int) ≤ (k : Int) := by omega
      obtain ⟨y, hy⟩ := h.out.get hc
      obtain ⟨b, off, rfl, hb, a0⟩ := h.out.cell k y hy
      replace hy := Lib.hid hy
      go_wp2
      go_loopw [4] (fun i wq => ∃ j : Nat, i = .int .i64 j ∧ j ≤ k ∧ Hid (∀ j', j' < j → xs[j']? ≠ some y) ∧ Hid (Below w.heap.size w wq)) (fun i _ => k - (intOf i).toNat)
      case atStart => exact ⟨0, rfl, Nat.zero_le _, (fun j' h => absurd h (Nat.not_lt_zero _)), hB.out⟩
      case round =>
        obtain ⟨j, rfl, hj, hN, hB2⟩ := hrel
        by_cases hj1 : j < k
        · have hc2 : (j : Int) < k := by omega
          have hj0 : (0 : Int) ≤ (j : Int) := by omega
          obtain ⟨z, hz⟩ := h.out.get (i := j) (by omega)
          obtain ⟨b2, off2, e2, hb2, c0⟩ := h.out.cell j z hz
          cases e2
          have q0 := (below_cell hB2.out hb).trans a0
          have q1 := (below_cell hB2.out hb).trans c0
          have hBd : Below w.heap.size w wr.drew := hB2.out.drew
          clear c0
          by_cases q : y = z
          · have d := str_eq q
            have ht : twiceL xs = true := by rw [twiceL_iff]; exact ⟨k, j, y, hj1, by rw [hlen.out]; exact hc, hy.out, by rw [q]; exact hz⟩
            replace hz := Lib.hid hz; replace q := Lib.hid q; replace ht := Lib.hid ht; replace hBd := Lib.hid hBd
            go_wp2
            go_quiet (fail)
            go_wp2
            go_ret
            exact ⟨by rw [ht.out]; rfl, ⟨hB2.out.os, hB2.out.tape, hB2.out.output, hB2.out.size, hB2.out.block⟩⟩
          · have d := str_ne q
            have hN2 : ∀ j', j' < j + 1 → xs[j']? ≠ some y := fun j' h e => by
              by_cases c : j' = j
              · subst c; rw [hz] at e; exact q (Option.some.inj e).symm
              · exact hN.out j' (by omega) e
            replace hz := Lib.hid hz; replace q := Lib.hid q; replace hN2 := Lib.hid hN2; replace hBd := Lib.hid hBd
            go_wp2
            go_quiet (fail)
            go_wp2
            go_roundw
            case rel => exact ⟨j + 1, by go_num, by omega, hN2.out, ⟨hB2.out.os, hB2.out.tape, hB2.out.output, hB2.out.size, hB2.out.block⟩⟩
            case measure => simp [intOf]; omega
        · have hc2 : ¬ (j : Int) < k := by omega
          have hD2 : ¬ DupTo xs (k + 1) := fun ⟨i, j', s, h1, h2, h3, h4⟩ => by
            by_cases c : i = k
            · subst c
              rw [hy.out] at h3
              exact hN.out j' (by omega) (by rw [h4, ← h3])
            · exact hD.out ⟨i, j', s, h1, by omega, h3, h4⟩
          replace hD2 := Lib.hid hD2
          go_wp2
          go_roundw
          case rel => exact ⟨k + 1, by go_num, by omega, hD2.out, hB2.out⟩
          case measure => simp [intOf]; omega
    · have hc1 : ¬ (k : Int) < n := by omega
      have ht : twiceL xs = false := by
        rw [Bool.eq_false_iff]
        intro c
        have hl := hlen.out
        have hkn : k = n := by omega
        exact hD.out (by rw [hkn, ← hl]; exact (twiceL_iff xs).1 c)
      replace ht := Lib.hid ht
      go_wp2
      go_ret
      exact ⟨by rw [ht.out]; rfl, hB.out⟩

def TextsPost (xs ys : List ByteArray) (w : World) (e : Ending) (w' : World) : Prop := e = .returned (.bool (decide (xs = ys))) ∧ Below w.heap.size w w'
set_option maxRecDepth 100000 in
set_option maxHeartbeats 1600000 in
theorem texts_any (ao bo : Option Addr) (n m c c' : Nat) (xs ys : List ByteArray) (w : World) (hx : StrsAt w ao n xs) (hy : StrsAt w bo m ys) : Calls Tryd.prog 61 #[.slice ao n c, .slice bo m c'] w (TextsPost xs ys w) := by
  have hlx := hx.len
  have hly := hy.len
  have hmx := hx.max
  by_cases q : n = m
  rotate_left
  · have d : ((n : Int) != (m : Int)) = true := by rw [bne_iff_ne]; omega
    have hne : decide (xs = ys) = false := decide_eq_false fun h => q (by rw [← hlx, ← hly, h])
    replace hx := Lib.hid hx; replace hy := Lib.hid hy; replace hlx := Lib.hid hlx; replace hly := Lib.hid hly; replace q := Lib.hid q; replace hne := Lib.hid hne
    go_enter Tryd.func61, Tryd.ntmps61
    go_wp2
    go_ret
    exact ⟨by rw [hne.out]; rfl, Below.refl _ _⟩
  subst q
  have d : ((n : Int) != (n : Int)) = false := by simp
  replace hx := Lib.hid hx; replace hy := Lib.hid hy; replace hlx := Lib.hid hlx; replace hly := Lib.hid hly
  go_enter Tryd.func61, Tryd.ntmps61
  go_wp2
  go_loopw [5] (fun i wr => ∃ k : Nat, i = .int .i64 k ∧ k ≤ n ∧ Hid (∀ j, j < k → xs[j]? = ys[j]?) ∧ Hid (Below w.heap.size w wr)) (fun i _ => n - (intOf i).toNat)
  case atStart => exact ⟨0, rfl, Nat.zero_le _, (fun j h => by omega), Below.refl _ _⟩
  case round =>
    obtain ⟨k, rfl, hk, hall, hB⟩ := hrel
    by_cases hc : k < n
    · have hc1 : (k : Int) < n := by omega
      have hk0 : (0 : Int) ≤ (k : Int) := by omega
      obtain ⟨y, hy1⟩ := hx.out.get hc
      obtain ⟨z, hz1⟩ := hy.out.get hc
      obtain ⟨b, off, rfl, hb, a0⟩ := hx.out.cell k y hy1
      obtain ⟨b', off', rfl, hb', a1⟩ := hy.out.cell k z hz1
      have b0 := (below_cell hB.out hb).trans a0
      have b1 := (below_cell hB.out hb').trans a1
      clear a0 a1
      by_cases q : y = z
      · have d2 := str_eqn q
        have d3 := str_eq q
        have hn : ∀ j, j < k + 1 → xs[j]? = ys[j]? := fun j hj => by
          by_cases e : j = k
          · subst e; rw [hy1, hz1, q]
          · exact hall.out j (by omega)
        replace hy1 := Lib.hid hy1; replace hz1 := Lib.hid hz1; replace q := Lib.hid q; replace hn := Lib.hid hn
        go_wp2
        go_quiet (fail)
        go_wp2
        go_roundw
        case rel => exact ⟨k + 1, by go_num, by omega, hn.out, ⟨hB.out.os, hB.out.tape, hB.out.output, hB.out.size, hB.out.block⟩⟩
        case measure => simp [intOf]; omega
      · have d2 := str_nen q
        have d3 := str_ne q
        have hne : decide (xs = ys) = false := decide_eq_false fun h => by
          rw [h, hz1] at hy1
          exact q (Option.some.inj hy1).symm
        replace hy1 := Lib.hid hy1; replace hz1 := Lib.hid hz1; replace q := Lib.hid q; replace hne := Lib.hid hne
        go_wp2
        go_quiet (fail)
        go_wp2
        go_ret
        exact ⟨by rw [hne.out]; rfl, ⟨hB.out.os, hB.out.tape, hB.out.output, hB.out.size, hB.out.block⟩⟩
    · have hc1 : ¬ (k : Int) < n := by omega
      have he : decide (xs = ys) = true := decide_eq_true (List.ext_getElem? fun j => by
        by_cases hj : j < n
        · exact hall.out j (by omega)
        · have h1 := hlx.out
          have h2 := hly.out
          rw [List.getElem?_eq_none (by omega), List.getElem?_eq_none (by omega)])
      replace he := Lib.hid he
      go_wp2
      go_ret
      exact ⟨by rw [he.out]; rfl, hB.out⟩
end Go.Proofs.YteoihdkaoipocaaDoor
