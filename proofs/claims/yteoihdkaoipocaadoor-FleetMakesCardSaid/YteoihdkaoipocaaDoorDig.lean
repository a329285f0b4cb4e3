/- corveeref03.Digits: a number in decimal digits. -/
import Derived.Test.YteoihdkaoipocaaDoorRct
import Derived.Lib.ItoaNum
import Derived.IntWalk
namespace Go.Proofs.YteoihdkaoipocaaDoor
open Go.RowKit

def digS : ByteArray := { data := #[48, 49, 50, 51, 52, 53, 54, 55, 56, 57] }
theorem dig_ext (d : Nat) (h : d < 10) : ({ data := #[48, 49, 50, 51, 52, 53, 54, 55, 56, 57] } : ByteArray).extract d (1 + d) = ofL [UInt8.ofNat (48 + d)] := by
  rcases (show d = 0 ∨ d = 1 ∨ d = 2 ∨ d = 3 ∨ d = 4 ∨ d = 5 ∨ d = 6 ∨ d = 7 ∨ d = 8 ∨ d = 9 by omega) with rfl | rfl | rfl | rfl | rfl | rfl | rfl | rfl | rfl | rfl <;> kernel_rfl
theorem ofL_app (a b : List UInt8) : ofL a ++ ofL b = ofL (a ++ b) := toL_inj (by rw [ofL_toL]; simp [ofL])
theorem dec_len : ∀ (n u : Nat), u < 10 ^ (n + 1) → (Lib.decDigits u).length ≤ n + 1
  | 0, u, h => by rw [Lib.decDigits, dif_pos (by simpa using h)]; simp
  | n + 1, u, h => by
    rw [Lib.decDigits]
    split
    · simp
    · have := dec_len n (u / 10) (by rw [Nat.pow_succ] at h; omega)
      rw [List.length_append]
      simp
      omega
theorem dec_le {u : Nat} (h : u ≤ 9223372036854775808) : (Lib.decDigits u).length ≤ 19 := by
  refine dec_len 18 u ?_
  have : (10 : Nat) ^ (18 + 1) = 10000000000000000000 := by decide
  rw [this]
  omega
theorem neg_tmod (u : Nat) : (-(u : Int)).tmod 10 = -((u % 10 : Nat) : Int) := by
  rw [Int.neg_tmod, Int.tmod_eq_emod_of_nonneg (by omega)]; omega
theorem neg_tdiv (u : Nat) : (-(u : Int)).tdiv 10 = -((u / 10 : Nat) : Int) := by
  rw [Int.neg_tdiv, Int.tdiv_eq_ediv_of_nonneg (by omega)]; omega
set_option maxRecDepth 100000 in
set_option maxHeartbeats 800000 in
theorem minus_any (u : Nat) (hu : u ≤ 9223372036854775808) (w : World) : Calls Tryd.prog 121 #[.int .i64 (-(u : Int))] w fun e w' => e = .returned (.string (ofL (Lib.decDigits u))) ∧ w' = w := by
  induction u using Nat.strongRecOn with
  | _ u ih =>
    obtain ⟨q, hq⟩ : ∃ q, q = u / 10 := ⟨_, rfl⟩
    obtain ⟨d, hd⟩ : ∃ d, d = u % 10 := ⟨_, rfl⟩
    have hd10 : d < 10 := by omega
    obtain ⟨x, hx⟩ : ∃ x : Int, x = -(u : Int) := ⟨_, rfl⟩
    have hr : x.tmod 10 = -(d : Int) := by rw [hx, hd, neg_tmod]
    have hqq : x.tdiv 10 = -(q : Int) := by rw [hx, hq, neg_tdiv]
    have hx0 : x ≤ 0 := by omega
    have hx1 : -9223372036854775808 ≤ x := by omega
    have hsl := dig_ext d hd10
    have hq0 : (0 : Int) ≤ (q : Int) := by omega
    have hq1 : (q : Int) ≤ 922337203685477580 := by omega
    have ihq := fun (h : q < u) => ih q h (by omega)
    rw [← hx]
    have ih' := Lib.hid ih
    have ihq' := Lib.hid ihq
    clear ih ihq
    by_cases hb : x > -10
    · have hdd : Lib.decDigits u = [UInt8.ofNat (48 + d)] := by rw [Lib.decDigits, dif_pos (by omega)]; rw [show d = u by omega]
      have db : decide (-10 < x) = true := decide_eq_true hb
      replace hq := Lib.hid hq; replace hd := Lib.hid hd; replace hx := Lib.hid hx; replace hdd := Lib.hid hdd; replace hsl := Lib.hid hsl
      go_enter Tryd.func121, Tryd.ntmps121
      go_wp2
      go_ret
      refine ⟨?_, rfl⟩
      show Ending.returned (.string (({ data := #[48, 49, 50, 51, 52, 53, 54, 55, 56, 57] } : ByteArray).extract d (1 + d))) = _
      rw [hsl.out, hdd.out]
    · have hdd : Lib.decDigits u = Lib.decDigits q ++ [UInt8.ofNat (48 + d)] := by rw [Lib.decDigits, dif_neg (by omega), ← hq, ← hd]
      have db : decide (-10 < x) = false := decide_eq_false hb
      have hc := ihq'.out (by omega)
      have hwq : wrap64 (-(q : Int)) = -(q : Int) := by unfold wrap64; omega
      have hsz : (ofL (Lib.decDigits q)).size ≤ 19 := by rw [ofL_size]; exact dec_le (by omega)
      have hlt : ¬ 9223372036854775807 < (ofL (Lib.decDigits q)).size + (min (1 + d) 10 - d) := by omega
      replace hq := Lib.hid hq; replace hd := Lib.hid hd; replace hx := Lib.hid hx; replace hdd := Lib.hid hdd; replace hsl := Lib.hid hsl; replace hc := Lib.hid hc; replace hsz := Lib.hid hsz
      go_enter Tryd.func121, Tryd.ntmps121
      go_wp2_with fail
      (with_reducible refine hc.out.mono ?_)
      rintro e w1 ⟨rfl, rfl⟩
      go_wp2
      go_ret
      refine ⟨?_, rfl⟩
      show Ending.returned (.string (ofL (Lib.decDigits q) ++ ({ data := #[48, 49, 50, 51, 52, 53, 54, 55, 56, 57] } : ByteArray).extract d (1 + d))) = _
      rw [hsl.out, hdd.out, ofL_app]
theorem itoa_len {n : Int} (h0 : -9223372036854775808 ≤ n) (h1 : n ≤ 9223372036854775807) : (Lib.itoa n).length ≤ 20 := by
  unfold Lib.itoa
  split
  · have := dec_le (u := n.natAbs) (by omega)
    simp; omega
  · have := dec_le (u := n.toNat) (by omega)
    omega
set_option maxRecDepth 100000 in
theorem digits_any (n : Int) (h0 : -9223372036854775808 ≤ n) (h1 : n ≤ 9223372036854775807) (w : World) : Calls Tryd.prog 78 #[.int .i64 n] w fun e w' => e = .returned (.string (ofL (Lib.itoa n))) ∧ w' = w := by
  by_cases hn : n < 0
  · have dn : decide (n < 0) = true := decide_eq_true hn
    have hi : Lib.itoa n = 45 :: Lib.decDigits n.natAbs := if_pos hn
    have hc := minus_any n.natAbs (by omega) w
    rw [show (-(n.natAbs : Int)) = n by omega] at hc
    have hsz : (ofL (Lib.decDigits n.natAbs)).size ≤ 19 := by rw [ofL_size]; exact dec_le (by omega)
    have hlt : ¬ 9223372036854775807 < 1 + (ofL (Lib.decDigits n.natAbs)).size := by omega
    replace hi := Lib.hid hi; replace hc := Lib.hid hc; replace hsz := Lib.hid hsz
    go_enter Tryd.func78, Tryd.ntmps78
    go_wp2_with fail
    refine hc.out.mono ?_
    rintro e w1 ⟨rfl, rfl⟩
    go_wp2
    go_ret
    refine ⟨?_, rfl⟩
    show Ending.returned (.string (({ data := #[45] } : ByteArray) ++ ofL (Lib.decDigits n.natAbs))) = _
    rw [hi.out, show ({ data := #[45] } : ByteArray) = ofL [45] from rfl, ofL_app]; rfl
  · have dn : decide (n < 0) = false := decide_eq_false hn
    have hi : Lib.itoa n = Lib.decDigits n.toNat := if_neg hn
    have hc := minus_any n.toNat (by omega) w
    rw [show (-(n.toNat : Int)) = -n by omega] at hc
    replace hi := Lib.hid hi; replace hc := Lib.hid hc
    go_enter Tryd.func78, Tryd.ntmps78
    go_wp2_with fail
    (with_reducible refine hc.out.mono ?_)
    rintro e w1 ⟨rfl, rfl⟩
    go_wp2
    go_ret
    exact ⟨by rw [hi.out]; rfl, rfl⟩
end Go.Proofs.YteoihdkaoipocaaDoor
