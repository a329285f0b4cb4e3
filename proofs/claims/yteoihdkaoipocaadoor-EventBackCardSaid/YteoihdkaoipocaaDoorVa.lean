/- Parts Base, Cd0, Vec, Nam, Num, Shelf, Pcs, Vrd, Rct in one text. Plain theorems: no condition. -/
import Derived.Test.YteoihdkaoipocaaDoorProg
import Derived.WalkKit
import Derived.WalkLawsBesides
import Derived.WalkSpells
import Derived.Lib.Hide
import Derived.Deep.QuietTactic
import Derived.BigQuiet
import Derived.KernelRfl
import Derived.Lib.Zigzag
import Derived.Shelf.Strings.Builder1
import Derived.Shelf.Strings.Builder2
import Derived.Shelf.Strings.OnBuilder
import Derived.Shelf.Small.Bits
import Derived.Shelf.Small.Wraps
import Derived.Shelf.Strings.BuilderF
import Derived.Shelf.Utf8.RuneCount
import Derived.Shelf.Strconv.Itoa0
import Derived.Shelf.Strconv.Itoa1
import Derived.Shelf.LaysM
import Derived.Shelf.Strconv.Itoa2
import Derived.Shelf.Strconv.Itoa3
import Derived.Shelf.Strings.Search1
import Derived.Shelf.Strings.Search2
import Derived.Shelf.Strings.Search3
import Derived.Shelf.Strings.Cut
import Derived.Shelf.Strings.Count
import Derived.Shelf.Strings.Shaped
import Derived.Shelf.Sort.Plain
import Derived.Shelf.Strings.Prefix
import Derived.Shelf.Strings.Split
import Derived.Shelf.Strings.SplitShaped
import Derived.Shelf.Unicode.Decode
import Derived.Shelf.Strings.RuneCount
import Derived.Shelf.Strings.Explode
import Derived.Shelf.Unicode.DecodeSlow
import Derived.Shelf.Unicode.DecodeAny
import Derived.Shelf.Slices.Turned
import Derived.Ground.Names2Prog
import Derived.Shelf.Slices.Clone
import Derived.Shelf.Slices.CompactS
import Derived.Shelf.Slices.Cells
import Derived.Shelf.Slices.In.SortNone
import Derived.Ground.SlgnProg
import Derived.Shelf.SlicesE.Clone
import Derived.Maps.AppendAt
import Derived.Lib.SmallJoins
import Derived.Deep.DeepCutAuto
/- Small laws on blocks of memory, and the four amounts. -/
namespace Go.Proofs.YteoihdkaoipocaaDoor
open Go.RowKit

/-- an amount of each of the four resources -/
structure V4 where
  a : Int
  b : Int
  c : Int
  d : Int
deriving DecidableEq

def V4.get (v : V4) : Nat → Int
  | 0 => v.a
  | 1 => v.b
  | 2 => v.c
  | _ => v.d

abbrev V4.cells (v : V4) : Array Value := #[.int .i64 v.a, .int .i64 v.b, .int .i64 v.c, .int .i64 v.d]
abbrev V4.val (v : V4) : Value := .agg #[.int .i64 v.a, .int .i64 v.b, .int .i64 v.c, .int .i64 v.d]

theorem lt4 {i : Nat} (h : i < 4) : i = 0 ∨ i = 1 ∨ i = 2 ∨ i = 3 := by omega

theorem below_cell {B : Nat} {w w' : World} (h : Below B w w') {b o : Nat} (hb : b < B) : w'.cell? ⟨b, o, none⟩ = w.cell? ⟨b, o, none⟩ := h.cell (p := ⟨b, o, none⟩) hb

section
variable {w w' : World} {b b' o B : Nat} {c : Array Value} {T : TypeId} {fr : Nat × Nat} {x y : Obj} {v : Value}
theorem blk_cell (h : w.heap[b]? = some (.cells c T fr)) (o : Nat) : w.cell? ⟨b, o, none⟩ = c[o]? := by simp [World.cell?, h]
theorem blk_free (h : w.heap[b]? = some (.cells c T (0, 0))) (o : Nat) : w.frozen? ⟨b, o, none⟩ = false := by simp [World.frozen?, h]
theorem blk_set (h : w.heap[b]? = some (.cells c T fr)) (o : Nat) (v : Value) : (w.setCell ⟨b, o, none⟩ v).heap[b]? = some (.cells (c.setIfInBounds o v) T fr) := by
  simp [World.setCell, Array.getElem?_modify, h]
theorem blk_set_other (hne : b ≠ b') (v : Value) (h : w.heap[b]? = some x) : (w.setCell ⟨b', o, none⟩ v).heap[b]? = some x := by
  rw [Below.heap_setCell _ _ _ _ hne]; exact h
theorem blk_lt (h : w.heap[b]? = some x) : b < w.heap.size := (Array.getElem?_eq_some_iff.1 h).1
theorem blk_new (w : World) (x : Obj) : (w.alloc x).heap[w.heap.size]? = some x := heap_alloc_new w x
theorem blk_at (w : World) (x : Obj) (h : b = w.heap.size) : (w.alloc x).heap[b]? = some x := h ▸ heap_alloc_new w x
theorem blk_old (y : Obj) (h : w.heap[b]? = some x) : (w.alloc y).heap[b]? = some x := (Below.heap_alloc w y b (blk_lt h)).trans h
theorem blk_below (hb : Below B w w') (h : w.heap[b]? = some x) (hlt : b < B) : w'.heap[b]? = some x := (hb.block b hlt).trans h
end

theorem enters {F : FuncId} {fn : Func} (h : Tryd.prog.funcs[F]? = some fn) (hn : fn.name ≠ "runtime.NumGoroutine") (hb : fn.body ≠ none) :
    ∀ args w, (callFunc F args).run Tryd.prog w = .ok (.enter F args) w := by
  intro args w
  simp [callFunc, go_sem, h, hn, hb]
end Go.Proofs.YteoihdkaoipocaaDoor

/- Numbers as bytes, plain. Plain theorems: no condition. -/
namespace Go.Proofs.YteoihdkaoipocaaDoor

/-- the bytes of a number -/
abbrev uintB (n : Nat) : List UInt8 := Lib.uvarint n
theorem uintB_lt {n : Nat} (h : n < 128) : uintB n = [UInt8.ofNat n] := Lib.uvarint_small h
theorem uintB_ge {n : Nat} (h : ¬ n < 128) : uintB n = UInt8.ofNat (128 + n % 128) :: uintB (n / 128) := by
  rw [Nat.add_comm 128]
  exact Lib.uvarint_big (by omega)
theorem uintB_ne (n : Nat) : uintB n ≠ [] := fun e => by
  have h := Lib.uvarint_pos n
  rw [show Lib.uvarint n = [] from e] at h
  simp at h
theorem uintB_ten {n : Nat} (h : n < 18446744073709551616) : (uintB n).length ≤ 10 := Lib.uvarint_length64 h
/-- a number off bytes: the value, the bytes behind, the error -/
def decU : Nat → Nat → List UInt8 → Nat × List UInt8 × Int
  | _, _, [] => (0, [], 10)
  | i, acc, c :: l => if (i = 9 ∧ 1 < c.toNat) ∨ (0 < i ∧ c.toNat = 0) then (0, [], 11) else
    if c.toNat < 128 then (acc + c.toNat * 128 ^ i, l, 0) else decU (i + 1) (acc + (c.toNat - 128) * 128 ^ i) l
theorem p9 : 128 ^ 9 = 9223372036854775808 := by decide
theorem lt_ten {n i : Nat} (h : n * 128 ^ i < 18446744073709551616) (hn : 0 < n) : i ≤ 9 := by
  rcases Nat.lt_or_ge i 10 with c | c
  · omega
  · have h1 : 128 ^ 10 ≤ 128 ^ i := Nat.pow_le_pow_right (by omega) c
    have h2 : 128 ^ i ≤ n * 128 ^ i := Nat.le_mul_of_pos_left _ hn
    have h3 : 128 ^ 10 = 1180591620717411303424 := by decide
    omega
theorem toNat_small {m : Nat} (h : m < 256) : (UInt8.ofNat m).toNat = m := by rw [UInt8.toNat_ofNat']; omega
theorem decU_enc : ∀ (n i acc : Nat) (r : List UInt8), n * 128 ^ i < 18446744073709551616 → i ≤ 9 → (0 < i → 0 < n) → decU i acc (uintB n ++ r) = (acc + n * 128 ^ i, r, 0) := by
  intro n
  induction n using Nat.strongRecOn with
  | _ n ih =>
    intro i acc r h h9 h0
    by_cases c : n < 128
    · rw [uintB_lt c]
      show decU i acc (UInt8.ofNat n :: r) = _
      rw [decU, toNat_small (by omega), if_neg, if_pos c]
      rintro (⟨e, g⟩ | ⟨e, g⟩)
      · subst e
        rw [p9] at h
        omega
      · have := h0 e
        omega
    · rw [uintB_ge c]
      show decU i acc (UInt8.ofNat (128 + n % 128) :: (uintB (n / 128) ++ r)) = _
      rw [decU, toNat_small (by omega), if_neg, if_neg (by omega)]
      · have hm : n = n % 128 + (n / 128) * 128 := by omega
        have hp : 128 ^ (i + 1) = 128 ^ i * 128 := Nat.pow_succ ..
        have he : n * 128 ^ i = (n % 128) * 128 ^ i + (n / 128) * 128 ^ (i + 1) := by
          conv => lhs; rw [hm]
          rw [Nat.add_mul, hp, Nat.mul_assoc (n / 128), Nat.mul_comm 128 (128 ^ i)]
        have hlt : (n / 128) * 128 ^ (i + 1) < 18446744073709551616 := by omega
        have hpos : 0 < n / 128 := by omega
        rw [ih (n / 128) (by omega) (i + 1) _ r hlt (lt_ten hlt hpos) (fun _ => hpos)]
        rw [show 128 + n % 128 - 128 = n % 128 by omega, he]
        rw [Nat.add_assoc]
      · rintro (⟨e, g⟩ | ⟨e, g⟩)
        · subst e
          rw [p9] at h
          omega
        · omega
theorem decU_short : ∀ (n i acc : Nat) (p q : List UInt8), n * 128 ^ i < 18446744073709551616 → i ≤ 9 → (0 < i → 0 < n) → p ++ q = uintB n → q ≠ [] → decU i acc p = (0, [], 10) := by
  intro n
  induction n using Nat.strongRecOn with
  | _ n ih =>
    intro i acc p q h h9 h0 e hq
    by_cases c : n < 128
    · rw [uintB_lt c] at e
      cases p with
      | nil => rfl
      | cons a p =>
        have h2 := congrArg List.length e
        have hq' := List.length_pos_iff.2 hq
        simp only [List.length_append, List.length_cons, List.length_nil] at h2
        omega
    · rw [uintB_ge c] at e
      cases p with
      | nil => rfl
      | cons a p =>
        simp only [List.cons_append, List.cons.injEq] at e
        obtain ⟨rfl, e⟩ := e
        rw [decU, toNat_small (by omega), if_neg, if_neg (by omega)]
        · have hm : n = n % 128 + (n / 128) * 128 := by omega
          have hp : 128 ^ (i + 1) = 128 ^ i * 128 := Nat.pow_succ ..
          have he : n * 128 ^ i = (n % 128) * 128 ^ i + (n / 128) * 128 ^ (i + 1) := by
            conv => lhs; rw [hm]
            rw [Nat.add_mul, hp, Nat.mul_assoc (n / 128), Nat.mul_comm 128 (128 ^ i)]
          have hlt : (n / 128) * 128 ^ (i + 1) < 18446744073709551616 := by omega
          have hpos : 0 < n / 128 := by omega
          exact ih (n / 128) (by omega) (i + 1) _ p q hlt (lt_ten hlt hpos) (fun _ => hpos) e hq
        · rintro (⟨e, g⟩ | ⟨e, g⟩)
          · subst e
            rw [p9] at h
            omega
          · omega
set_option maxRecDepth 100000 in
/-- what is a number's bytes is the one form of it -/
theorem decU_can : ∀ (l : List UInt8) (i acc v : Nat) (r : List UInt8), i ≤ 9 → decU i acc l = (v, r, 0) → ∃ n, v = acc + n * 128 ^ i ∧ l = uintB n ++ r ∧ n * 128 ^ i < 18446744073709551616 ∧ (0 < i → 0 < n)
  | [], i, acc, v, r, _, h => by simp [decU] at h
  | c :: l, i, acc, v, r, h9, h => by
    rw [decU] at h
    by_cases g : (i = 9 ∧ 1 < c.toNat) ∨ (0 < i ∧ c.toNat = 0)
    · rw [if_pos g] at h; simp at h
    rw [if_neg g] at h
    have hcb : c.toNat < 256 := c.toNat_lt
    by_cases q : c.toNat < 128
    · rw [if_pos q] at h
      simp only [Prod.mk.injEq] at h
      obtain ⟨rfl, rfl, _⟩ := h
      refine ⟨c.toNat, rfl, by rw [uintB_lt q]; simp, ?_, fun hi => ?_⟩
      · by_cases e : i = 9
        · subst e
          rw [p9]
          omega
        · have h1 : 128 ^ i ≤ 128 ^ 8 := Nat.pow_le_pow_right (by omega) (by omega)
          have h2 : c.toNat * 128 ^ i ≤ 127 * 128 ^ 8 := Nat.mul_le_mul (by omega) h1
          have h3 : 127 * 128 ^ 8 < 18446744073709551616 := by decide
          omega
      · omega
    · rw [if_neg q] at h
      have hi : i ≤ 8 := by omega
      obtain ⟨n, hv, hl, hlt, hpos⟩ := decU_can l (i + 1) _ v r (by omega) h
      have hn := hpos (by omega)
      have hp : 128 ^ (i + 1) = 128 ^ i * 128 := Nat.pow_succ ..
      have he : (c.toNat - 128 + n * 128) * 128 ^ i = (c.toNat - 128) * 128 ^ i + n * 128 ^ (i + 1) := by
        rw [Nat.add_mul, hp, Nat.mul_assoc n, Nat.mul_comm 128 (128 ^ i)]
      refine ⟨c.toNat - 128 + n * 128, by rw [he, hv]; omega, ?_, ?_, fun _ => by omega⟩
      · rw [uintB_ge (by omega)]
        have h1 : (c.toNat - 128 + n * 128) / 128 = n := by omega
        have h2 : 128 + (c.toNat - 128 + n * 128) % 128 = c.toNat := by omega
        rw [h1, h2, UInt8.ofNat_toNat, hl]
        rfl
      · rw [he]
        by_cases e : i = 8
        · subst e
          have hb : n ≤ 1 := by
            have : (128 : Nat) ^ (8 + 1) = 9223372036854775808 := by decide
            rw [this] at hlt
            omega
          have h1 : (c.toNat - 128) * 128 ^ 8 ≤ 127 * 128 ^ 8 := Nat.mul_le_mul (by omega) (Nat.le_refl _)
          have h2 : n * 128 ^ (8 + 1) ≤ 1 * 128 ^ 9 := Nat.mul_le_mul hb (Nat.le_refl _)
          have h3 : 127 * 128 ^ 8 + 1 * 128 ^ 9 < 18446744073709551616 := by decide
          exact Nat.lt_of_le_of_lt (Nat.add_le_add h1 h2) h3
        · have hs : (c.toNat - 128) * 128 ^ i ≤ 127 * 128 ^ i := Nat.mul_le_mul (by omega) (Nat.le_refl _)
          have hk : ∃ K, 128 ^ (i + 1) * K = 18446744073709551616 ∧ K = 2 ^ (64 - 7 * (i + 1)) := by
            refine ⟨_, ?_, rfl⟩
            rw [show (128 : Nat) = 2 ^ 7 by decide, ← Nat.pow_mul, ← Nat.pow_add, show 7 * (i + 1) + (64 - 7 * (i + 1)) = 64 by omega]
          obtain ⟨K, hK, _⟩ := hk
          rw [← hK] at hlt ⊢
          rw [Nat.mul_comm n] at hlt ⊢
          have hnK : n < K := Nat.lt_of_mul_lt_mul_left hlt
          have h5 : 128 ^ (i + 1) * (n + 1) ≤ 128 ^ (i + 1) * K := Nat.mul_le_mul (Nat.le_refl _) hnK
          have hpp : 0 < 128 ^ i := Nat.pow_pos (by omega)
          have h6 : 127 * 128 ^ i < 128 ^ (i + 1) := by rw [hp]; omega
          rw [Nat.mul_add, Nat.mul_one] at h5
          generalize 128 ^ (i + 1) * n = X at h5 ⊢
          generalize 128 ^ (i + 1) * K = Y at h5 ⊢
          generalize (c.toNat - 128) * 128 ^ i = Z at hs ⊢
          generalize 127 * 128 ^ i = U at hs h6
          generalize 128 ^ (i + 1) = V at h5 h6
          omega
/-- a number of either sign, as one of none -/
abbrev zz (n : Int) : Nat := Lib.zigzag n
def unzz (u : Nat) : Int := if u % 2 = 1 then -((u / 2 : Nat) : Int) - 1 else ((u / 2 : Nat) : Int)
theorem unzz_zz (n : Int) : unzz (zz n) = n := by
  unfold unzz zz Lib.zigzag
  split <;> split <;> omega
theorem zz_unzz (u : Nat) : zz (unzz u) = u := by
  unfold unzz zz Lib.zigzag
  split <;> split <;> omega
theorem zz_lt {n : Int} (h1 : -9223372036854775808 ≤ n) (h2 : n ≤ 9223372036854775807) : zz n < 18446744073709551616 := by
  unfold zz Lib.zigzag
  split <;> omega
theorem unzz_bd {u : Nat} (h : u < 18446744073709551616) : -9223372036854775808 ≤ unzz u ∧ unzz u ≤ 9223372036854775807 := by
  unfold unzz
  split <;> omega
end Go.Proofs.YteoihdkaoipocaaDoor

/- Package vec: what Right, Fits, Least, Add, Sub answer. -/
namespace Go.Proofs.YteoihdkaoipocaaDoor
open Go.RowKit

def okn (x : Int) : Bool := decide (0 ≤ x) && decide (x ≤ 1073741824)
def V4.right (v : V4) : Bool := okn v.a && okn v.b && okn v.c && okn v.d
def V4.fits (u v : V4) : Bool := decide (u.a ≤ v.a) && decide (u.b ≤ v.b) && decide (u.c ≤ v.c) && decide (u.d ≤ v.d)

/-- vec.all over a function value: what it tells of 0, 1, 2, 3 together. -/
theorem all_any (F : FuncId) (caps : Array Value) (p : Nat → Bool) (w : World)
    (hF : ∀ args w, (callFunc F args).run Tryd.prog w = .ok (.enter F args) w)
    (H : ∀ (i : Nat) (w1 : World), i < 4 → Below w.heap.size w w1 → Calls Tryd.prog F (#[.int .i64 i] ++ caps) w1 fun e w2 => e = .returned (.bool (p i)) ∧ Below w.heap.size w1 w2) :
    Calls Tryd.prog 113 #[.func (.func F) #[] caps] w fun e w' => e = .returned (.bool (p 0 && p 1 && p 2 && p 3)) ∧ Below w.heap.size w w' := by
  have H' := Lib.hid H; clear H
  go_enter Tryd.func113, Tryd.ntmps113
  go_wp2
  go_loopw [3, 4] (fun _ i wr => ∃ k : Nat, k ≤ 4 ∧ i = .int .i64 k ∧ Below w.heap.size w wr ∧ (∀ j : Nat, j < k → p j = true)) (fun _ i _ => 4 - (intOf i).toNat)
  case atStart => exact ⟨0, by omega, rfl, Below.refl _ _, by omega⟩
  case round =>
    obtain ⟨k, hk, rfl, hb, hp⟩ := hrel
    have hp' := Lib.hid hp; clear hp
    by_cases h4 : k < 4
    · have hi : (k:Int) < 4 := by omega
      go_wp2_with fail
      refine (H'.out k _ h4 hb).mono ?_
      rintro e w2 ⟨rfl, hb2⟩
      cases hpk : p k
      · have hpk' := Lib.hid hpk; clear hpk
        go_wp2
        go_ret
        refine ⟨?_, hb.trans hb2⟩
        have hpk := hpk'.out
        have : (p 0 && p 1 && p 2 && p 3) = false := by
          rcases (show k = 0 ∨ k = 1 ∨ k = 2 ∨ k = 3 by omega) with rfl | rfl | rfl | rfl <;> simp [hpk]
        rw [this]
        rfl
      · have hpk' := Lib.hid hpk; clear hpk
        go_wp2
        go_roundw
        case rel =>
          refine ⟨k + 1, by omega, by go_num, hb.trans hb2, ?_⟩
          intro j hj
          by_cases hjk : j = k
          · subst hjk; exact hpk'.out
          · exact hp'.out j (by omega)
        case measure => simp [intOf]; omega
    · have hi : ¬ (k:Int) < 4 := by omega
      go_wp2
      go_ret
      refine ⟨?_, hb⟩
      have hp := hp'.out
      rw [hp 0 (by omega), hp 1 (by omega), hp 2 (by omega), hp 3 (by omega)]
      rfl

theorem enters114 : ∀ args w, (callFunc 114 args).run Tryd.prog w = .ok (.enter 114 args) w := enters Tryd.func114 (by decide) (by simp [Tryd.f114])

theorem right1_any (v : V4) (b : Nat) (i : Nat) (B : Nat) (w : World) (hi : i < 4)
    (h0 : w.cell? ⟨b, 0, none⟩ = some (.int .i64 v.a)) (h1 : w.cell? ⟨b, 1, none⟩ = some (.int .i64 v.b)) (h2 : w.cell? ⟨b, 2, none⟩ = some (.int .i64 v.c)) (h3 : w.cell? ⟨b, 3, none⟩ = some (.int .i64 v.d)) :
    Calls Tryd.prog 114 (#[.int .i64 i] ++ #[.pointer (some ⟨b, 0, none⟩)]) w fun e w' => e = .returned (.bool (okn (v.get i))) ∧ Below B w w' := by
  have key : ∀ x : Int, x < 0 → okn x = false := by intro x hx; simp [okn]; omega
  have key2 : ∀ x : Int, 0 ≤ x → okn x = decide (x ≤ 1073741824) := by intro x hx; simp [okn, hx]
  have hk := Lib.hid key; have hk2 := Lib.hid key2; clear key key2
  rcases lt4 hi with rfl | rfl | rfl | rfl
  all_goals
    go_enter Tryd.func114, Tryd.ntmps114
    go_wp2
    all_goals
      go_ret
      refine ⟨?_, Below.refl _ _⟩
      simp only [V4.get]
      first
        | (rw [hk.out _ (by assumption)]; rfl)
        | (rw [hk2.out _ (by assumption)]; rfl)

theorem right_any (v : V4) (w : World) :
    Calls Tryd.prog 70 #[v.val] w fun e w' => e = .returned (.bool v.right) ∧ Below w.heap.size w w' := by
  go_enter Tryd.func70, Tryd.ntmps70
  go_wp2_with fail
  refine (all_any 114 _ (fun i => okn (v.get i)) _ enters114 ?_).mono ?_
  · intro i w1 hi hb
    have hc : ∀ j, w1.cell? ⟨w.heap.size, j, none⟩ = _ := fun j => below_cell (o := j) hb (by simp)
    exact right1_any v w.heap.size i _ w1 hi (by rw [hc]; simp) (by rw [hc]; simp) (by rw [hc]; simp) (by rw [hc]; simp)
  · rintro e w2 ⟨rfl, hb2⟩
    go_wp2
    go_ret
    exact ⟨rfl, ((Below.refl _ _).alloc (Nat.le_refl _) _).trans (hb2.mono (by simp))⟩

theorem enters124 : ∀ args w, (callFunc 124 args).run Tryd.prog w = .ok (.enter 124 args) w := enters Tryd.func124 (by decide) (by simp [Tryd.f124])

theorem fits1_any (u v : V4) (b1 b2 : Nat) (i : Nat) (B : Nat) (w : World) (hi : i < 4)
    (hu : w.heap[b1]? = some (.cells u.cells 25 (0, 0))) (hv : w.heap[b2]? = some (.cells v.cells 25 (0, 0))) :
    Calls Tryd.prog 124 (#[.int .i64 i] ++ #[.pointer (some ⟨b1, 0, none⟩), .pointer (some ⟨b2, 0, none⟩)]) w fun e w' => e = .returned (.bool (decide (u.get i ≤ v.get i))) ∧ Below B w w' := by
  have c0 := blk_cell hu 0; have c1 := blk_cell hu 1; have c2 := blk_cell hu 2; have c3 := blk_cell hu 3
  have d0 := blk_cell hv 0; have d1 := blk_cell hv 1; have d2 := blk_cell hv 2; have d3 := blk_cell hv 3
  simp at c0 c1 c2 c3 d0 d1 d2 d3
  clear hu hv
  rcases lt4 hi with rfl | rfl | rfl | rfl
  all_goals
    go_enter Tryd.func124, Tryd.ntmps124
    go_wp2
    go_quiet (fail)
    go_wp2
    go_ret
    exact ⟨rfl, ⟨rfl, rfl, rfl, Nat.le_refl _, fun _ _ => rfl⟩⟩

theorem fits_any (u v : V4) (w : World) :
    Calls Tryd.prog 89 #[u.val, v.val] w fun e w' => e = .returned (.bool (u.fits v)) ∧ Below w.heap.size w w' := by
  go_enter Tryd.func89, Tryd.ntmps89
  go_wp2_with fail
  refine (all_any 124 _ (fun i => decide (u.get i ≤ v.get i)) _ enters124 ?_).mono ?_
  · intro i w1 hi hb
    exact fits1_any u v w.heap.size (w.heap.size + 1) i _ w1 hi (blk_below hb (blk_old _ (blk_new _ _)) (by simp; omega)) (blk_below hb (blk_at _ _ (by simp)) (by simp))
  · rintro e w2 ⟨rfl, hb2⟩
    go_wp2
    go_ret
    exact ⟨rfl, (((Below.refl _ _).alloc (Nat.le_refl _) _).alloc (by simp) _).trans (hb2.mono (by simp; omega))⟩

def V4.zero : V4 := ⟨0, 0, 0, 0⟩
def V4.told (v : V4) (e : Int) : V4 × Int := if v.right = true then (v, 0) else (V4.zero, e)
theorem told_any (v : V4) (e : Int) (w : World) :
    Calls Tryd.prog 138 #[v.val, .int .i64 e] w fun e' w' => e' = .returned (.tuple #[(v.told e).1.val, .int .i64 (v.told e).2]) ∧ Below w.heap.size w w' := by
  go_enter Tryd.func138, Tryd.ntmps138
  go_wp2_with fail
  refine (right_any v _).mono ?_
  rintro e w2 ⟨rfl, hb2⟩
  have g := blk_below hb2 (blk_at (b := w.heap.size + 1) _ _ (by simp)) (by simp)
  have cx := blk_cell g; have fx := blk_free g
  have g0 := blk_below hb2 (blk_old _ (blk_new _ _)) (by simp; omega)
  have cy := blk_cell g0
  clear g g0
  have hB : Below w.heap.size w w2 := (((Below.refl _ _).alloc (Nat.le_refl _) _).alloc (by simp) _).trans (hb2.mono (by simp; omega))
  cases hr : v.right
  all_goals
    have hr' := Lib.hid hr; clear hr
    go_wp2
    refine bodyPost_ret (v := .tuple #[(v.told e).1.val, .int .i64 (v.told e).2]) (by simp [results, Tryd.results138, go_sem, cx, V4.told, hr'.out, V4.zero]) rfl ⟨rfl, ?_⟩
    refine Below.setCell ?_ (by simp) _
    refine Below.setCell ?_ (by simp) _
    refine Below.setCell ?_ (by simp) _
    refine Below.setCell ?_ (by simp) _
    exact hB
end Go.Proofs.YteoihdkaoipocaaDoor

/- fleet.Name and corveeref05.Name: which texts are names. -/
namespace Go.Proofs.YteoihdkaoipocaaDoor
open Go.RowKit

abbrev Bs := List UInt8
/-- the letter at a place, as a number -/
def chz (s : ByteArray) (k : Nat) : Int := ((s.data.toList.getD k 0).toNat : Int)
def nameCh (c : Int) : Bool := (decide (97 ≤ c) && decide (c ≤ 122)) || (decide (48 ≤ c) && decide (c ≤ 57)) || decide (c = 45)
def nameTo (s : ByteArray) : Nat → Bool
  | 0 => true
  | k + 1 => nameTo s k && nameCh (chz s k)
def isName (s : ByteArray) : Bool := decide (1 ≤ s.size) && decide (s.size ≤ 16) && nameTo s s.size
theorem nameTo_le {s : ByteArray} {k n : Nat} (h : nameTo s n = true) (hk : k ≤ n) : nameTo s k = true := by
  induction n with
  | zero => have : k = 0 := by omega
            subst this; rfl
  | succ n ih =>
    simp only [nameTo, Bool.and_eq_true] at h
    by_cases c : k = n + 1
    · subst c; simp [nameTo, h]
    · exact ih h.1 (by omega)
theorem nameTo_no {s : ByteArray} {k : Nat} (hk : k < s.size) (h : nameCh (chz s k) = false) : nameTo s s.size = false := by
  rw [Bool.eq_false_iff]
  intro c
  have := nameTo_le c (show k + 1 ≤ s.size by omega)
  simp [nameTo, h] at this
theorem index_at {P : Program} {t : TypeId} (h : P.underlying t = some .string) (s : ByteArray) (k : Nat) (i : Int) (hi : i = k) (hk : k < s.size) (w : World) : (Instr.index t (.string s) (.int .i64 i)).run P w = .ok (.int .u8 (chz s k)) w := by
  subst hi
  rw [run_index_string w t s .i64 k h, dif_pos ⟨by omega, by omega⟩]
  have e : s[((k : Int)).toNat]'(by omega) = s.data.toList.getD k 0 := by
    have h2 : k < s.data.toList.length := by simpa using hk
    have h4 : k < s.data.size := hk
    have h3 : s.data.toList.getD k 0 = s.data.toList[k] := by
      simp only [List.getD, Array.getElem?_toList, Array.getElem_toList]
      rw [Array.getElem?_eq_getElem h4]; rfl
    rw [h3]
    rfl
  rw [e]
  rfl

theorem ch_cases (c : Int) : (nameCh c = true ∧ ((97 ≤ c ∧ c ≤ 122) ∨ (48 ≤ c ∧ c ≤ 57) ∨ c = 45)) ∨ (nameCh c = false ∧ ((c < 48 ∧ c ≠ 45) ∨ (57 < c ∧ c < 97) ∨ 122 < c)) := by
  by_cases h : (97 ≤ c ∧ c ≤ 122) ∨ (48 ≤ c ∧ c ≤ 57) ∨ c = 45
  · exact .inl ⟨by unfold nameCh; simp; omega, h⟩
  · refine .inr ⟨?_, by omega⟩
    rw [Bool.eq_false_iff]; intro hh
    unfold nameCh at hh
    simp at hh
    omega

set_option maxRecDepth 100000 in
set_option maxHeartbeats 1600000 in
theorem name_any (s : ByteArray) (w : World) (hs : s.size ≤ maxLen) : Calls Tryd.prog 19 #[.string s] w fun e w' => e = .returned (.bool (isName s)) ∧ Below w.heap.size w w' := by
  have hix : ∀ (k : Nat), k < s.size → ∀ w, (Instr.index 9 (.string s) (.int .i64 (k : Int))).run Tryd.prog w = .ok (.int .u8 (chz s k)) w := fun k hk w => index_at Tryd.underlying9 s k k rfl hk w
  have hmx : s.size ≤ 9223372036854775807 := hs
  replace hix := Lib.hid hix
  go_enter Tryd.func19, Tryd.ntmps19
  go_wp2
  go_loopw [3, 4, 7] (fun _ _ i wr => ∃ k : Nat, i = .int .i64 k ∧ k ≤ s.size ∧ Hid (nameTo s k = true) ∧ Hid (Below w.heap.size w wr)) (fun _ _ i _ => s.size - (intOf i).toNat)
  case atStart => exact ⟨0, rfl, Nat.zero_le _, rfl, Below.refl _ _⟩
  case round =>
    obtain ⟨k, rfl, hk, hy, hB⟩ := hrel
    by_cases hk1 : k < s.size
    · have hc1 : (k : Int) < s.size := by omega
      have hi1 := hix.out k hk1
      obtain ⟨c, hc⟩ : ∃ c, c = chz s k := ⟨_, rfl⟩
      rw [← hc] at hi1
      have hcs := ch_cases c
      rcases hcs with ⟨hch, h | h | h⟩ | ⟨hch, h | h | h⟩
      · have k1 : decide (c < 97) = false := by simp; omega
        have k2 : decide (122 < c) = false := by simp; omega
        have k3 : decide (c < 48) = false := by simp; omega
        have k4 : decide (57 < c) = true := by simp; omega
        have k5 : (c != 45) = true := by simp; try omega
        have hch' : nameCh (chz s k) = true := by rw [← hc]; exact hch
        replace hc := Lib.hid hc; replace hch := Lib.hid hch; replace hch' := Lib.hid hch'; replace h := Lib.hid h
        have hy2 : nameTo s (k + 1) = true := by simp only [nameTo, hy.out, hch'.out, Bool.and_self]
        replace hy2 := Lib.hid hy2
        go_wp2
        go_roundw
        case rel => exact ⟨k + 1, by go_num, by omega, hy2.out, hB.out⟩
        case measure => simp [intOf]; omega
      · have k1 : decide (c < 97) = true := by simp; omega
        have k2 : decide (122 < c) = false := by simp; omega
        have k3 : decide (c < 48) = false := by simp; omega
        have k4 : decide (57 < c) = false := by simp; omega
        have k5 : (c != 45) = true := by simp; try omega
        have hch' : nameCh (chz s k) = true := by rw [← hc]; exact hch
        replace hc := Lib.hid hc; replace hch := Lib.hid hch; replace hch' := Lib.hid hch'; replace h := Lib.hid h
        have hy2 : nameTo s (k + 1) = true := by simp only [nameTo, hy.out, hch'.out, Bool.and_self]
        replace hy2 := Lib.hid hy2
        go_wp2
        go_roundw
        case rel => exact ⟨k + 1, by go_num, by omega, hy2.out, hB.out⟩
        case measure => simp [intOf]; omega
      · have k1 : decide (c < 97) = true := by simp; omega
        have k2 : decide (122 < c) = false := by simp; omega
        have k3 : decide (c < 48) = true := by simp; omega
        have k4 : decide (57 < c) = false := by simp; omega
        have k5 : (c != 45) = false := by simp; try omega
        have hch' : nameCh (chz s k) = true := by rw [← hc]; exact hch
        replace hc := Lib.hid hc; replace hch := Lib.hid hch; replace hch' := Lib.hid hch'; replace h := Lib.hid h
        have hy2 : nameTo s (k + 1) = true := by simp only [nameTo, hy.out, hch'.out, Bool.and_self]
        replace hy2 := Lib.hid hy2
        go_wp2
        go_roundw
        case rel => exact ⟨k + 1, by go_num, by omega, hy2.out, hB.out⟩
        case measure => simp [intOf]; omega
      · have k1 : decide (c < 97) = true := by simp; omega
        have k2 : decide (122 < c) = false := by simp; omega
        have k3 : decide (c < 48) = true := by simp; omega
        have k4 : decide (57 < c) = false := by simp; omega
        have k5 : (c != 45) = true := by simp; try omega
        have hno : nameCh (chz s k) = false := by rw [← hc]; exact hch
        replace hc := Lib.hid hc; replace hch := Lib.hid hch; replace hno := Lib.hid hno; replace h := Lib.hid h
        have hz : isName s = false := by unfold isName; rw [nameTo_no hk1 hno.out]; simp
        replace hz := Lib.hid hz
        go_wp2
        go_ret
        exact ⟨by rw [hz.out]; rfl, hB.out⟩
      · have k1 : decide (c < 97) = true := by simp; omega
        have k2 : decide (122 < c) = false := by simp; omega
        have k3 : decide (c < 48) = false := by simp; omega
        have k4 : decide (57 < c) = true := by simp; omega
        have k5 : (c != 45) = true := by simp; try omega
        have hno : nameCh (chz s k) = false := by rw [← hc]; exact hch
        replace hc := Lib.hid hc; replace hch := Lib.hid hch; replace hno := Lib.hid hno; replace h := Lib.hid h
        have hz : isName s = false := by unfold isName; rw [nameTo_no hk1 hno.out]; simp
        replace hz := Lib.hid hz
        go_wp2
        go_ret
        exact ⟨by rw [hz.out]; rfl, hB.out⟩
      · have k1 : decide (c < 97) = false := by simp; omega
        have k2 : decide (122 < c) = true := by simp; omega
        have k3 : decide (c < 48) = false := by simp; omega
        have k4 : decide (57 < c) = true := by simp; omega
        have k5 : (c != 45) = true := by simp; try omega
        have hno : nameCh (chz s k) = false := by rw [← hc]; exact hch
        replace hc := Lib.hid hc; replace hch := Lib.hid hch; replace hno := Lib.hid hno; replace h := Lib.hid h
        have hz : isName s = false := by unfold isName; rw [nameTo_no hk1 hno.out]; simp
        replace hz := Lib.hid hz
        go_wp2
        go_ret
        exact ⟨by rw [hz.out]; rfl, hB.out⟩
    · have hc1 : ¬ (k : Int) < s.size := by omega
      have hkn : k = s.size := by omega
      subst hkn
      have hz : isName s = (decide ((1 : Int) ≤ s.size) && decide ((s.size : Int) ≤ 16)) := by
        unfold isName; rw [hy.out, Bool.and_true]
        congr 1 <;> exact decide_eq_decide.2 (by omega)
      by_cases h1 : (1 : Int) ≤ s.size
      · have k1 : decide ((1 : Int) ≤ s.size) = true := by simpa using h1
        have k1' : decide (1 ≤ s.size) = true := decide_eq_true (by omega)
        by_cases h2 : (s.size : Int) ≤ 16
        · have k2 : decide ((s.size : Int) ≤ 16) = true := by simpa using h2
          have hzz : isName s = true := by rw [hz, k1, k2]; rfl
          replace hz := Lib.hid hz; replace hzz := Lib.hid hzz
          go_wp2
          go_ret
          exact ⟨by rw [hzz.out]; rfl, hB.out⟩
        · have k2 : decide ((s.size : Int) ≤ 16) = false := by simpa using h2
          have hzz : isName s = false := by rw [hz, k1, k2]; rfl
          replace hz := Lib.hid hz; replace hzz := Lib.hid hzz
          go_wp2
          go_ret
          exact ⟨by rw [hzz.out]; rfl, hB.out⟩
      · have k1 : decide ((1 : Int) ≤ s.size) = false := by simpa using h1
        have k1' : decide (1 ≤ s.size) = false := decide_eq_false (by omega)
        have hzz : isName s = false := by rw [hz, k1]; rfl
        replace hz := Lib.hid hz; replace hzz := Lib.hid hzz
        go_wp2
        go_ret
        exact ⟨by rw [hzz.out]; rfl, hB.out⟩

end Go.Proofs.YteoihdkaoipocaaDoor

/- Numbers in texts: vec.number, spec.number, corveeref03.Number. -/
namespace Go.Proofs.YteoihdkaoipocaaDoor
open Go.RowKit

def isDig (c : Int) : Bool := decide (48 ≤ c) && decide (c ≤ 57)
def digTo (s : ByteArray) : Nat → Bool
  | 0 => true
  | k + 1 => digTo s k && isDig (chz s k)
def numTo (s : ByteArray) : Nat → Int
  | 0 => 0
  | k + 1 => 10 * numTo s k + (chz s k - 48)
/-- the number of a text of at most so many digits; -1: none -/
def numOf (s : ByteArray) (d : Nat) : Int :=
  if s.size = 0 ∨ d < s.size ∨ (1 < s.size ∧ chz s 0 = 48) then -1 else if digTo s s.size = true then numTo s s.size else -1
theorem digTo_le {s : ByteArray} {k n : Nat} (h : digTo s n = true) (hk : k ≤ n) : digTo s k = true := by
  induction n with
  | zero => have : k = 0 := by omega
            subst this; rfl
  | succ n ih =>
    simp only [digTo, Bool.and_eq_true] at h
    by_cases c : k = n + 1
    · subst c; simp [digTo, h]
    · exact ih h.1 (by omega)
theorem digTo_no {s : ByteArray} {k : Nat} (hk : k < s.size) (h : isDig (chz s k) = false) : ¬ digTo s s.size = true := by
  intro c
  have := digTo_le c (show k + 1 ≤ s.size by omega)
  simp [digTo, h] at this
theorem isDig_iff {c : Int} : isDig c = true ↔ 48 ≤ c ∧ c ≤ 57 := by simp [isDig]
theorem numTo_bd {s : ByteArray} {k : Nat} (h : digTo s k = true) : 0 ≤ numTo s k ∧ numTo s k < 10 ^ k := by
  induction k with
  | zero => simp [numTo]
  | succ k ih =>
    simp only [digTo, Bool.and_eq_true] at h
    obtain ⟨h1, h2⟩ := ih h.1
    obtain ⟨h3, h4⟩ := isDig_iff.1 h.2
    rw [Int.pow_succ]
    simp only [numTo]
    omega
theorem numTo_13 {s : ByteArray} {k : Nat} (h : digTo s k = true) (hk : k ≤ 13) : 0 ≤ numTo s k ∧ numTo s k < 10000000000000 := by
  obtain ⟨h1, h2⟩ := numTo_bd h
  refine ⟨h1, Int.lt_of_lt_of_le h2 ?_⟩
  rcases (show k = 0 ∨ k = 1 ∨ k = 2 ∨ k = 3 ∨ k = 4 ∨ k = 5 ∨ k = 6 ∨ k = 7 ∨ k = 8 ∨ k = 9 ∨ k = 10 ∨ k = 11 ∨ k = 12 ∨ k = 13 by omega) with rfl | rfl | rfl | rfl | rfl | rfl | rfl | rfl | rfl | rfl | rfl | rfl | rfl | rfl <;> decide

set_option maxRecDepth 100000 in
set_option maxHeartbeats 3200000 in
theorem vnum_any (s : ByteArray) (w : World) (hs : s.size ≤ maxLen) : Calls Tryd.prog 137 #[.string s] w fun e w' => e = .returned (.int .i64 (numOf s 10)) ∧ Below w.heap.size w w' := by
  have hix : ∀ (k : Nat), k < s.size → ∀ w, (Instr.index 9 (.string s) (.int .i64 (k : Int))).run Tryd.prog w = .ok (.int .u8 (chz s k)) w := fun k hk w => index_at Tryd.underlying9 s k k rfl hk w
  have hsz : decide ((s.size : Int) = 0) = decide (s.size = 0) := decide_eq_decide.2 (by omega)
  by_cases h0 : s.size = 0
  · have k0 : ((s.size : Int) == 0) = true := by rw [h0]; rfl
    have k0' : decide ((s.size : Int) < 1) = true := decide_eq_true (by omega)
    have k0n : decide (s.size < 1) = true := decide_eq_true (by omega)
    have hz : numOf s 10 = -1 := by unfold numOf; rw [if_pos (.inl h0)]
    replace h0 := Lib.hid h0; replace hz := Lib.hid hz; replace hs := Lib.hid hs; replace hix := Lib.hid hix; replace hsz := Lib.hid hsz
    go_enter Tryd.func137, Tryd.ntmps137
    go_wp2
    go_ret
    exact ⟨by rw [hz.out]; rfl, Below.refl _ _⟩
  have k0 : ((s.size : Int) == 0) = false := by simp only [beq_eq_false_iff_ne]; omega
  have k0' : decide ((s.size : Int) < 1) = false := decide_eq_false (by omega)
  have k0n : decide (s.size < 1) = false := decide_eq_false (by omega)
  by_cases h1 : 10 < s.size
  · have k1 : decide ((10 : Int) < s.size) = true := decide_eq_true (by omega)
    have hz : numOf s 10 = -1 := by unfold numOf; rw [if_pos (.inr (.inl h1))]
    replace h0 := Lib.hid h0; replace hz := Lib.hid hz; replace hs := Lib.hid hs; replace hix := Lib.hid hix; replace hsz := Lib.hid hsz
    go_enter Tryd.func137, Tryd.ntmps137
    go_wp2
    go_ret
    exact ⟨by rw [hz.out]; rfl, Below.refl _ _⟩
  have k1 : decide ((10 : Int) < s.size) = false := decide_eq_false (by omega)
  have k1n : decide (10 < s.size) = false := decide_eq_false h1
  have hi0 : ∀ w, (Instr.index 9 (.string s) (.int .i64 0)).run Tryd.prog w = .ok (.int .u8 (chz s 0)) w := hix 0 (by omega)
  obtain ⟨c0, hc0⟩ : ∃ c, c = chz s 0 := ⟨_, rfl⟩
  rw [← hc0] at hi0
  by_cases h2 : 1 < s.size ∧ c0 = 48
  · have k2 : decide ((1 : Int) < s.size) = true := decide_eq_true (by omega)
    have k3 : (c0 == 48) = true := by simp [h2.2]
    have hz : numOf s 10 = -1 := by unfold numOf; rw [if_pos (.inr (.inr (by rw [← hc0]; exact h2)))]
    replace h0 := Lib.hid h0; replace h1 := Lib.hid h1; replace h2 := Lib.hid h2; replace hz := Lib.hid hz; replace hs := Lib.hid hs; replace hix := Lib.hid hix; replace hsz := Lib.hid hsz; replace hc0 := Lib.hid hc0
    go_enter Tryd.func137, Tryd.ntmps137
    go_wp2
    go_ret
    exact ⟨by rw [hz.out]; rfl, Below.refl _ _⟩
  have hsp : decide ((1 : Int) < s.size) = false ∨ (decide ((1 : Int) < s.size) = true ∧ (c0 == 48) = false) := by
    by_cases c : 1 < s.size
    · refine .inr ⟨decide_eq_true (by omega), ?_⟩
      simp only [beq_eq_false_iff_ne]; intro e; exact h2 ⟨c, e⟩
    · exact .inl (decide_eq_false (by omega))
  have hne : ¬ (s.size = 0 ∨ 10 < s.size ∨ (1 < s.size ∧ chz s 0 = 48)) := by rw [← hc0]; omega
  have h13 : s.size ≤ 13 := by omega
  have hmx : s.size ≤ 13 := by omega
  clear h2 h1 h0 hs
  replace hix := Lib.hid hix; replace hne := Lib.hid hne; replace h13 := Lib.hid h13; replace hsz := Lib.hid hsz; replace hc0 := Lib.hid hc0
  rcases hsp with k2 | ⟨k2, k3⟩
  all_goals
    go_enter Tryd.func137, Tryd.ntmps137
    go_wp2
    go_loopw [3, 4, 25] (fun n _ i wr => ∃ k : Nat, i = .int .i64 k ∧ n = .int .i64 (numTo s k) ∧ k ≤ s.size ∧ Hid (digTo s k = true) ∧ Hid (Below w.heap.size w wr)) (fun _ _ i _ => s.size - (intOf i).toNat)
    case atStart => exact ⟨0, rfl, rfl, Nat.zero_le _, rfl, Below.refl _ _⟩
    case round =>
      obtain ⟨k, rfl, rfl, hk, hy, hB⟩ := hrel
      clear k0 k0' k0n k1 k1n hi0
      try clear k3
      clear k2
      by_cases hk1 : k < s.size
      · have hc1 : (k : Int) < s.size := by omega
        have hi1 := hix.out k hk1
        obtain ⟨c, hc⟩ : ∃ c, c = chz s k := ⟨_, rfl⟩
        rw [← hc] at hi1
        by_cases hd : isDig c = true
        · obtain ⟨q1, q2⟩ := isDig_iff.1 hd
          have k1 : decide (c < 48) = false := decide_eq_false (by omega)
          have k2 : decide (57 < c) = false := decide_eq_false (by omega)
          have hy2 : digTo s (k + 1) = true := by simp only [digTo, hy.out, ← hc, hd, Bool.and_self]
          obtain ⟨n, hn⟩ : ∃ n, n = numTo s k := ⟨_, rfl⟩
          rw [← hn]
          have hbd := numTo_13 hy.out (by have := h13.out; omega)
          rw [← hn] at hbd
          have ew1 : IntKind.i64.wrap (n * 10) = n * 10 := IntWalk.i64_in _ (by omega)
          have ew1' : IntKind.i64.wrap (10 * n) = 10 * n := IntWalk.i64_in _ (by omega)
          have ew2 : IntKind.u8.wrap (c - 48) = c - 48 := IntWalk.u8_in _ (by omega)
          have ew3 : IntKind.i64.wrap (c - 48) = c - 48 := IntWalk.i64_in _ (by omega)
          have ew4 : IntKind.i64.wrap (n * 10 + (c - 48)) = n * 10 + (c - 48) := IntWalk.i64_in _ (by omega)
          have ew4' : IntKind.i64.wrap (10 * n + (c - 48)) = 10 * n + (c - 48) := IntWalk.i64_in _ (by omega)
          have hn2 : numTo s (k + 1) = 10 * n + (c - 48) := by simp only [numTo, ← hn, ← hc]
          replace hc := Lib.hid hc; replace hd := Lib.hid hd; replace q1 := Lib.hid q1; replace q2 := Lib.hid q2; replace hy2 := Lib.hid hy2; replace hn := Lib.hid hn; replace hbd := Lib.hid hbd; replace hn2 := Lib.hid hn2
          go_wp2
          go_roundw
          case rel => exact ⟨k + 1, by go_num, by first | rfl | (rw [hn2.out]; done) | (rw [hn2.out]; go_num) | (rw [hn2.out]; congr 1; omega) | (rw [hn2.out]; congr 1), by omega, hy2.out, hB.out⟩
          case measure => simp [intOf]; omega
        · have hno : isDig (chz s k) = false := by rw [← hc]; simpa using hd
          have hz : numOf s 10 = -1 := by unfold numOf; rw [if_neg hne.out, if_neg (digTo_no hk1 hno)]
          have hdd : c < 48 ∨ 57 < c := by
            apply Classical.byContradiction; intro q
            exact hd (isDig_iff.2 (by omega))
          replace hc := Lib.hid hc; replace hd := Lib.hid hd; replace hno := Lib.hid hno; replace hz := Lib.hid hz
          rcases hdd with q | q
          · have k1 : decide (c < 48) = true := decide_eq_true q
            go_wp2
            go_ret
            exact ⟨by rw [hz.out]; rfl, hB.out⟩
          · have k1 : decide (c < 48) = false := decide_eq_false (by omega)
            have k2 : decide (57 < c) = true := decide_eq_true q
            go_wp2
            go_ret
            exact ⟨by rw [hz.out]; rfl, hB.out⟩
      · have hc1 : ¬ (k : Int) < s.size := by omega
        have hkn : k = s.size := by omega
        subst hkn
        have hz : numOf s 10 = numTo s s.size := by unfold numOf; rw [if_neg hne.out, if_pos hy.out]
        replace hz := Lib.hid hz
        go_wp2
        go_ret
        exact ⟨by rw [hz.out]; rfl, hB.out⟩
set_option maxRecDepth 100000 in
set_option maxHeartbeats 3200000 in
theorem snum_any (s : ByteArray) (w : World) (hs : s.size ≤ maxLen) : Calls Tryd.prog 140 #[.string s] w fun e w' => e = .returned (.int .i64 (numOf s 13)) ∧ Below w.heap.size w w' := by
  have hix : ∀ (k : Nat), k < s.size → ∀ w, (Instr.index 9 (.string s) (.int .i64 (k : Int))).run Tryd.prog w = .ok (.int .u8 (chz s k)) w := fun k hk w => index_at Tryd.underlying9 s k k rfl hk w
  have hsz : decide ((s.size : Int) = 0) = decide (s.size = 0) := decide_eq_decide.2 (by omega)
  by_cases h0 : s.size = 0
  · have k0 : ((s.size : Int) == 0) = true := by rw [h0]; rfl
    have k0' : decide ((s.size : Int) < 1) = true := decide_eq_true (by omega)
    have k0n : decide (s.size < 1) = true := decide_eq_true (by omega)
    have hz : numOf s 13 = -1 := by unfold numOf; rw [if_pos (.inl h0)]
    replace h0 := Lib.hid h0; replace hz := Lib.hid hz; replace hs := Lib.hid hs; replace hix := Lib.hid hix; replace hsz := Lib.hid hsz
    go_enter Tryd.func140, Tryd.ntmps140
    go_wp2
    go_ret
    exact ⟨by rw [hz.out]; rfl, Below.refl _ _⟩
  have k0 : ((s.size : Int) == 0) = false := by simp only [beq_eq_false_iff_ne]; omega
  have k0' : decide ((s.size : Int) < 1) = false := decide_eq_false (by omega)
  have k0n : decide (s.size < 1) = false := decide_eq_false (by omega)
  by_cases h1 : 13 < s.size
  · have k1 : decide ((13 : Int) < s.size) = true := decide_eq_true (by omega)
    have hz : numOf s 13 = -1 := by unfold numOf; rw [if_pos (.inr (.inl h1))]
    replace h0 := Lib.hid h0; replace hz := Lib.hid hz; replace hs := Lib.hid hs; replace hix := Lib.hid hix; replace hsz := Lib.hid hsz
    go_enter Tryd.func140, Tryd.ntmps140
    go_wp2
    go_ret
    exact ⟨by rw [hz.out]; rfl, Below.refl _ _⟩
  have k1 : decide ((13 : Int) < s.size) = false := decide_eq_false (by omega)
  have k1n : decide (13 < s.size) = false := decide_eq_false h1
  have hi0 : ∀ w, (Instr.index 9 (.string s) (.int .i64 0)).run Tryd.prog w = .ok (.int .u8 (chz s 0)) w := hix 0 (by omega)
  obtain ⟨c0, hc0⟩ : ∃ c, c = chz s 0 := ⟨_, rfl⟩
  rw [← hc0] at hi0
  by_cases h2 : 1 < s.size ∧ c0 = 48
  · have k2 : decide ((1 : Int) < s.size) = true := decide_eq_true (by omega)
    have k3 : (c0 == 48) = true := by simp [h2.2]
    have hz : numOf s 13 = -1 := by unfold numOf; rw [if_pos (.inr (.inr (by rw [← hc0]; exact h2)))]
    replace h0 := Lib.hid h0; replace h1 := Lib.hid h1; replace h2 := Lib.hid h2; replace hz := Lib.hid hz; replace hs := Lib.hid hs; replace hix := Lib.hid hix; replace hsz := Lib.hid hsz; replace hc0 := Lib.hid hc0
    go_enter Tryd.func140, Tryd.ntmps140
    go_wp2
    go_ret
    exact ⟨by rw [hz.out]; rfl, Below.refl _ _⟩
  have hsp : decide ((1 : Int) < s.size) = false ∨ (decide ((1 : Int) < s.size) = true ∧ (c0 == 48) = false) := by
    by_cases c : 1 < s.size
    · refine .inr ⟨decide_eq_true (by omega), ?_⟩
      simp only [beq_eq_false_iff_ne]; intro e; exact h2 ⟨c, e⟩
    · exact .inl (decide_eq_false (by omega))
  have hne : ¬ (s.size = 0 ∨ 13 < s.size ∨ (1 < s.size ∧ chz s 0 = 48)) := by rw [← hc0]; omega
  have h13 : s.size ≤ 13 := by omega
  have hmx : s.size ≤ 13 := by omega
  clear h2 h1 h0 hs
  replace hix := Lib.hid hix; replace hne := Lib.hid hne; replace h13 := Lib.hid h13; replace hsz := Lib.hid hsz; replace hc0 := Lib.hid hc0
  rcases hsp with k2 | ⟨k2, k3⟩
  all_goals
    go_enter Tryd.func140, Tryd.ntmps140
    go_wp2
    go_loopw [3, 4, 25] (fun n _ i wr => ∃ k : Nat, i = .int .i64 k ∧ n = .int .i64 (numTo s k) ∧ k ≤ s.size ∧ Hid (digTo s k = true) ∧ Hid (Below w.heap.size w wr)) (fun _ _ i _ => s.size - (intOf i).toNat)
    case atStart => exact ⟨0, rfl, rfl, Nat.zero_le _, rfl, Below.refl _ _⟩
    case round =>
      obtain ⟨k, rfl, rfl, hk, hy, hB⟩ := hrel
      clear k0 k0' k0n k1 k1n hi0
      try clear k3
      clear k2
      by_cases hk1 : k < s.size
      · have hc1 : (k : Int) < s.size := by omega
        have hi1 := hix.out k hk1
        obtain ⟨c, hc⟩ : ∃ c, c = chz s k := ⟨_, rfl⟩
        rw [← hc] at hi1
        by_cases hd : isDig c = true
        · obtain ⟨q1, q2⟩ := isDig_iff.1 hd
          have k1 : decide (c < 48) = false := decide_eq_false (by omega)
          have k2 : decide (57 < c) = false := decide_eq_false (by omega)
          have hy2 : digTo s (k + 1) = true := by simp only [digTo, hy.out, ← hc, hd, Bool.and_self]
          obtain ⟨n, hn⟩ : ∃ n, n = numTo s k := ⟨_, rfl⟩
          rw [← hn]
          have hbd := numTo_13 hy.out (by have := h13.out; omega)
          rw [← hn] at hbd
          have ew1 : IntKind.i64.wrap (n * 10) = n * 10 := IntWalk.i64_in _ (by omega)
          have ew1' : IntKind.i64.wrap (10 * n) = 10 * n := IntWalk.i64_in _ (by omega)
          have ew2 : IntKind.u8.wrap (c - 48) = c - 48 := IntWalk.u8_in _ (by omega)
          have ew3 : IntKind.i64.wrap (c - 48) = c - 48 := IntWalk.i64_in _ (by omega)
          have ew4 : IntKind.i64.wrap (n * 10 + (c - 48)) = n * 10 + (c - 48) := IntWalk.i64_in _ (by omega)
          have ew4' : IntKind.i64.wrap (10 * n + (c - 48)) = 10 * n + (c - 48) := IntWalk.i64_in _ (by omega)
          have hn2 : numTo s (k + 1) = 10 * n + (c - 48) := by simp only [numTo, ← hn, ← hc]
          replace hc := Lib.hid hc; replace hd := Lib.hid hd; replace q1 := Lib.hid q1; replace q2 := Lib.hid q2; replace hy2 := Lib.hid hy2; replace hn := Lib.hid hn; replace hbd := Lib.hid hbd; replace hn2 := Lib.hid hn2
          go_wp2
          go_roundw
          case rel => exact ⟨k + 1, by go_num, by first | rfl | (rw [hn2.out]; done) | (rw [hn2.out]; go_num) | (rw [hn2.out]; congr 1; omega) | (rw [hn2.out]; congr 1), by omega, hy2.out, hB.out⟩
          case measure => simp [intOf]; omega
        · have hno : isDig (chz s k) = false := by rw [← hc]; simpa using hd
          have hz : numOf s 13 = -1 := by unfold numOf; rw [if_neg hne.out, if_neg (digTo_no hk1 hno)]
          have hdd : c < 48 ∨ 57 < c := by
            apply Classical.byContradiction; intro q
            exact hd (isDig_iff.2 (by omega))
          replace hc := Lib.hid hc; replace hd := Lib.hid hd; replace hno := Lib.hid hno; replace hz := Lib.hid hz
          rcases hdd with q | q
          · have k1 : decide (c < 48) = true := decide_eq_true q
            go_wp2
            go_ret
            exact ⟨by rw [hz.out]; rfl, hB.out⟩
          · have k1 : decide (c < 48) = false := decide_eq_false (by omega)
            have k2 : decide (57 < c) = true := decide_eq_true q
            go_wp2
            go_ret
            exact ⟨by rw [hz.out]; rfl, hB.out⟩
      · have hc1 : ¬ (k : Int) < s.size := by omega
        have hkn : k = s.size := by omega
        subst hkn
        have hz : numOf s 13 = numTo s s.size := by unfold numOf; rw [if_neg hne.out, if_pos hy.out]
        replace hz := Lib.hid hz
        go_wp2
        go_ret
        exact ⟨by rw [hz.out]; rfl, hB.out⟩
end Go.Proofs.YteoihdkaoipocaaDoor

/- The library's contracts, laid at this translation by the kit's tools (lay-shelf, lay-plain), comments struck. No condition. -/
namespace Go.Proofs
open Go.Shelf
def Tryd.lays169_ren : Go.Shelf.Ren := ⟨fun | 169 => 99 | n => n, fun | 70 => 132 | 9 => 9 | 0 => 0 | 72 => 134 | 37 => 67 | 127 => 157 | 3 => 3 | 5 => 5 | n => n, fun | n => n⟩
def Tryd.lays241_ren : Go.Shelf.Ren := ⟨fun | 241 => 147 | 277 => 174 | n => n, fun | 70 => 132 | 3 => 3 | 0 => 0 | 72 => 134 | 37 => 67 | 5 => 5 | n => n, fun | n => n⟩
def Tryd.lays165_ren : Go.Shelf.Ren := ⟨fun | 165 => 120 | 240 => 129 | 241 => 147 | 276 => 149 | 277 => 174 | n => n, fun | 70 => 132 | 3 => 3 | 0 => 0 | 4 => 4 | 9 => 9 | 20 => 20 | 72 => 134 | 37 => 67 | 164 => 173 | 5 => 5 | n => n, fun | n => n⟩
def Tryd.lays156_ren : Go.Shelf.Ren := ⟨fun | 156 => 77 | 165 => 120 | 166 => 98 | 169 => 99 | 240 => 129 | 241 => 147 | 276 => 149 | 277 => 174 | n => n, fun | 31 => 36 | 9 => 9 | 3 => 3 | 4 => 4 | 0 => 0 | 20 => 20 | 72 => 134 | 76 => 137 | 70 => 132 | 37 => 67 | 75 => 136 | 127 => 157 | 164 => 173 | 5 => 5 | 80 => 63 | n => n, fun | n => n⟩
theorem Tryd.lays156 : Go.Proofs.Lays.n156 Tryd.prog Tryd.lays156_ren := {
  mixed := by kernel_rfl
  f156 := Tryd.func77.trans (congrArg some (by kernel_rfl))
  f165 := Tryd.func120.trans (congrArg some (by kernel_rfl))
  f166 := Tryd.func98.trans (congrArg some (by kernel_rfl))
  f169 := Tryd.func99.trans (congrArg some (by kernel_rfl))
  f240 := Tryd.func129.trans (congrArg some (by kernel_rfl))
  f241 := Tryd.func147.trans (congrArg some (by kernel_rfl))
  f276 := Tryd.func149.trans (congrArg some (by kernel_rfl))
  f277 := Tryd.func174.trans (congrArg some (by kernel_rfl))
  t0 := Tryd.underlying0
  a0 := Tryd.isAgg0
  z0 := Tryd.sizeOf0
  v0 := Tryd.zeroValue0
  t3 := Tryd.underlying3
  a3 := Tryd.isAgg3
  z3 := Tryd.sizeOf3
  v3 := Tryd.zeroValue3
  t4 := Tryd.underlying4
  a4 := Tryd.isAgg4
  z4 := Tryd.sizeOf4
  v4 := Tryd.zeroValue4
  t9 := Tryd.underlying9
  a9 := Tryd.isAgg9
  z9 := Tryd.sizeOf9
  v9 := Tryd.zeroValue9
  t20 := Tryd.underlying20
  a20 := Tryd.isAgg20
  z20 := Tryd.sizeOf20
  v20 := Tryd.zeroValue20
  t31 := Tryd.underlying36
  a31 := Tryd.isAgg36
  z31 := Tryd.sizeOf36
  v31 := Tryd.zeroValue36
  t37 := Tryd.underlying67
  a37 := Tryd.isAgg67
  z37 := Tryd.sizeOf67
  v37 := Tryd.zeroValue67
  t70 := Tryd.underlying132
  a70 := Tryd.isAgg132
  z70 := Tryd.sizeOf132
  v70 := Tryd.zeroValue132
  t72 := Tryd.underlying134
  a72 := Tryd.isAgg134
  z72 := Tryd.sizeOf134
  v72 := Tryd.zeroValue134
  t75 := Tryd.underlying136
  a75 := Tryd.isAgg136
  z75 := Tryd.sizeOf136
  v75 := Tryd.zeroValue136
  t76 := Tryd.underlying137
  a76 := Tryd.isAgg137
  z76 := Tryd.sizeOf137
  v76 := Tryd.zeroValue137
  t127 := Tryd.underlying157
  a127 := Tryd.isAgg157
  z127 := Tryd.sizeOf157
  v127 := Tryd.zeroValue157
  t164 := Tryd.underlying173
  a164 := Tryd.isAgg173
  z164 := Tryd.sizeOf173
  v164 := Tryd.zeroValue173 }
theorem Tryd.Builder_Extra_156 : Builder.Extra Tryd.prog Tryd.lays156_ren := {
  sizeBuilder := by kernel_rfl
  liesBuilder := by kernel_rfl
  t5 := Tryd.underlying5
  a5 := Tryd.isAgg5
  z5 := Tryd.sizeOf5
  v5 := Tryd.zeroValue5
  infoByte := by kernel_rfl
  cellsByte := by kernel_rfl
  sizeByte := by kernel_rfl
  neB5 := by decide }
open Go.RowKit in
theorem Tryd.strings_Join_none (a : Option Addr) (c : Nat) (sep : ByteArray) (w : World) :
    Calls Tryd.prog 77 #[.slice a 0 c, .string sep] w fun e w' => e = .returned (.string ⟨#[]⟩) ∧ w' = w := Any.strings_Join_none Tryd.lays156 Tryd.Builder_Extra_156 a c sep w
open Go.RowKit in
theorem Tryd.strings_Join (bk o c : Nat) (xs : List ByteArray) (sep : ByteArray) (w : World) (hcells : ∀ (j : Nat) x, xs[j]? = some x → w.cell? ⟨bk, o + j, none⟩ = some (.string x)) (hbk : bk < w.heap.size) (hN : xs.length ≤ 140737488355328) (hcap : xs.length ≤ c) (hlen : (Lib.join (xs.map (·.data.toList)) sep.data.toList).length ≤ 140737488355328) :
    Calls Tryd.prog 77 #[.slice (some ⟨bk, o, none⟩) xs.length c, .string sep] w fun e w' => e = .returned (.string ⟨(Lib.join (xs.map (·.data.toList)) sep.data.toList).toArray⟩) ∧ Below w.heap.size w w' := Any.strings_Join Tryd.lays156 Tryd.Builder_Extra_156 bk o c xs sep w hcells hbk hN hcap hlen
def Tryd.lays128_ren : Go.Shelf.Ren := ⟨fun | 128 => 159 | n => n, fun | 51 => 183 | 3 => 3 | 4 => 4 | 46 => 154 | 5 => 5 | 9 => 9 | n => n, fun | n => n⟩
def Tryd.lays125_ren : Go.Shelf.Ren := ⟨fun | 125 => 132 | 128 => 159 | 129 => 160 | n => n, fun | 46 => 154 | 3 => 3 | 51 => 183 | 53 => 153 | 4 => 4 | 5 => 5 | 9 => 9 | n => n, fun | n => n⟩
def Tryd.lays210_ren : Go.Shelf.Ren := ⟨fun | 210 => 168 | 206 => 184 | n => n, fun | 9 => 9 | 4 => 4 | 3 => 3 | n => n, fun | n => n⟩
def Tryd.lays103_ren : Go.Shelf.Ren := ⟨fun | 103 => 139 | 210 => 168 | 206 => 184 | n => n, fun | 9 => 9 | 4 => 4 | 24 => 164 | 3 => 3 | n => n, fun | n => n⟩
theorem Tryd.lays103 : Go.Proofs.Lays.n103 Tryd.prog Tryd.lays103_ren := {
  mixed := by kernel_rfl
  f103 := Tryd.func139.trans (congrArg some (by kernel_rfl))
  f206 := Tryd.func184.trans (congrArg some (by kernel_rfl))
  f210 := Tryd.func168.trans (congrArg some (by kernel_rfl))
  t3 := Tryd.underlying3
  a3 := Tryd.isAgg3
  z3 := Tryd.sizeOf3
  v3 := Tryd.zeroValue3
  t4 := Tryd.underlying4
  a4 := Tryd.isAgg4
  z4 := Tryd.sizeOf4
  v4 := Tryd.zeroValue4
  t9 := Tryd.underlying9
  a9 := Tryd.isAgg9
  z9 := Tryd.sizeOf9
  v9 := Tryd.zeroValue9
  t24 := Tryd.underlying164
  a24 := Tryd.isAgg164
  z24 := Tryd.sizeOf164
  v24 := Tryd.zeroValue164 }
open Go.RowKit in
theorem Tryd.strings_CutPrefix (s p : ByteArray) (w : World) :
    Calls Tryd.prog 139 #[.string s, .string p] w fun e w' => e = .returned (.tuple #[.string ⟨(Lib.trimPrefix s.data.toList p.data.toList).toArray⟩, .bool (Lib.hasPrefix s.data.toList p.data.toList)]) ∧ w' = w := Any.strings_CutPrefix Tryd.lays103 s p w
def Tryd.lays195_ren : Go.Shelf.Ren := ⟨fun | 195 => 161 | n => n, fun | 9 => 9 | 3 => 3 | 0 => 0 | 4 => 4 | n => n, fun | n => n⟩
def Tryd.lays129_ren : Go.Shelf.Ren := ⟨fun | 129 => 160 | n => n, fun | 53 => 153 | 3 => 3 | 4 => 4 | 46 => 154 | 5 => 5 | 9 => 9 | n => n, fun | n => n⟩
def Tryd.lays317_ren : Go.Shelf.Ren := ⟨fun | 317 => 185 | n => n, fun | 3 => 3 | 46 => 154 | n => n, fun | n => n⟩
def Tryd.lays318_ren : Go.Shelf.Ren := ⟨fun | 318 => 186 | n => n, fun | 3 => 3 | 4 => 4 | n => n, fun | n => n⟩
def Tryd.lays283_ren : Go.Shelf.Ren := ⟨fun | 283 => 169 | n => n, fun | 3 => 3 | 9 => 9 | 4 => 4 | n => n, fun | n => n⟩
def Tryd.laysM284_ren : Go.Shelf.Ren := ⟨fun | 284 => 170 | 129 => 160 | 317 => 185 | 318 => 186 | n => n, fun | 53 => 153 | 3 => 3 | 212 => 201 | 0 => 0 | 4 => 4 | 46 => 154 | 5 => 5 | 9 => 9 | n => n, fun | 17 => 1 | n => n⟩
def Tryd.lays285_ren : Go.Shelf.Ren := ⟨fun | 285 => 171 | n => n, fun | 37 => 67 | 53 => 153 | 3 => 3 | 4 => 4 | 51 => 183 | 9 => 9 | 5 => 5 | 0 => 0 | n => n, fun | n => n⟩
def Tryd.laysM246_ren : Go.Shelf.Ren := ⟨fun | 246 => 145 | 283 => 169 | 284 => 170 | 285 => 171 | 286 => 172 | 129 => 160 | 317 => 185 | 318 => 186 | 319 => 187 | 320 => 188 | 337 => 190 | 338 => 191 | n => n, fun | 2 => 2 | 3 => 3 | 9 => 9 | 4 => 4 | 171 => 188 | 0 => 0 | 53 => 153 | 37 => 67 | 5 => 5 | 173 => 190 | 212 => 201 | 51 => 183 | 20 => 20 | 213 => 202 | 46 => 154 | 232 => 209 | 233 => 210 | n => n, fun | 17 => 1 | 18 => 4 | 19 => 5 | n => n⟩
def Tryd.lays246_ren : Go.Shelf.Ren := ⟨fun | 246 => 145 | 283 => 169 | 284 => 170 | 285 => 171 | 286 => 172 | 129 => 160 | 317 => 185 | 318 => 186 | 319 => 187 | 320 => 188 | 337 => 190 | 338 => 191 | n => n, fun | 2 => 2 | 3 => 3 | 9 => 9 | 4 => 4 | 171 => 188 | 0 => 0 | 53 => 153 | 37 => 67 | 5 => 5 | 173 => 190 | 212 => 201 | 51 => 183 | 20 => 20 | 213 => 202 | 46 => 154 | 232 => 209 | 233 => 210 | n => n, fun | 17 => 1 | 18 => 4 | 19 => 5 | n => n⟩
def Tryd.laysM243_ren : Go.Shelf.Ren := ⟨fun | 243 => 118 | 246 => 145 | 283 => 169 | 284 => 170 | 285 => 171 | 286 => 172 | 129 => 160 | 317 => 185 | 318 => 186 | 319 => 187 | 320 => 188 | 337 => 190 | 338 => 191 | n => n, fun | 3 => 3 | 9 => 9 | 2 => 2 | 4 => 4 | 171 => 188 | 0 => 0 | 53 => 153 | 37 => 67 | 5 => 5 | 173 => 190 | 212 => 201 | 51 => 183 | 20 => 20 | 213 => 202 | 46 => 154 | 232 => 209 | 233 => 210 | n => n, fun | 17 => 1 | 18 => 4 | 19 => 5 | n => n⟩
def Tryd.lays243_ren : Go.Shelf.Ren := ⟨fun | 243 => 118 | 246 => 145 | 283 => 169 | 284 => 170 | 285 => 171 | 286 => 172 | 129 => 160 | 317 => 185 | 318 => 186 | 319 => 187 | 320 => 188 | 337 => 190 | 338 => 191 | n => n, fun | 3 => 3 | 9 => 9 | 2 => 2 | 4 => 4 | 171 => 188 | 0 => 0 | 53 => 153 | 37 => 67 | 5 => 5 | 173 => 190 | 212 => 201 | 51 => 183 | 20 => 20 | 213 => 202 | 46 => 154 | 232 => 209 | 233 => 210 | n => n, fun | 17 => 1 | 18 => 4 | 19 => 5 | n => n⟩
def Tryd.laysM171_ren : Go.Shelf.Ren := ⟨fun | 171 => 74 | 243 => 118 | 246 => 145 | 283 => 169 | 284 => 170 | 285 => 171 | 286 => 172 | 129 => 160 | 317 => 185 | 318 => 186 | 319 => 187 | 320 => 188 | 337 => 190 | 338 => 191 | n => n, fun | 3 => 3 | 9 => 9 | 2 => 2 | 4 => 4 | 171 => 188 | 0 => 0 | 53 => 153 | 37 => 67 | 5 => 5 | 173 => 190 | 212 => 201 | 51 => 183 | 20 => 20 | 213 => 202 | 46 => 154 | 232 => 209 | 233 => 210 | n => n, fun | 17 => 1 | 18 => 4 | 19 => 5 | n => n⟩
theorem Tryd.laysM171 : Go.Proofs.LaysM.n171 Tryd.prog Tryd.laysM171_ren := {
  mixed := by kernel_rfl
  f129 := Tryd.func160.trans (congrArg some (by kernel_rfl))
  f171 := Tryd.func74.trans (congrArg some (by kernel_rfl))
  f243 := Tryd.func118.trans (congrArg some (by kernel_rfl))
  f246 := Tryd.func145.trans (congrArg some (by kernel_rfl))
  f283 := Tryd.func169.trans (congrArg some (by kernel_rfl))
  f284 := Tryd.func170.trans (congrArg some (by kernel_rfl))
  f285 := Tryd.func171.trans (congrArg some (by kernel_rfl))
  f286 := Tryd.func172.trans (congrArg some (by kernel_rfl))
  f317 := Tryd.func185.trans (congrArg some (by kernel_rfl))
  f318 := Tryd.func186.trans (congrArg some (by kernel_rfl))
  f319 := Tryd.func187.trans (congrArg some (by kernel_rfl))
  f320 := Tryd.func188.trans (congrArg some (by kernel_rfl))
  f337 := Tryd.func190.trans (congrArg some (by kernel_rfl))
  f338 := Tryd.func191.trans (congrArg some (by kernel_rfl))
  t0 := Tryd.underlying0
  a0 := Tryd.isAgg0
  z0 := Tryd.sizeOf0
  v0 := Tryd.zeroValue0
  t2 := Tryd.underlying2
  a2 := Tryd.isAgg2
  z2 := Tryd.sizeOf2
  v2 := Tryd.zeroValue2
  t3 := Tryd.underlying3
  a3 := Tryd.isAgg3
  z3 := Tryd.sizeOf3
  v3 := Tryd.zeroValue3
  t4 := Tryd.underlying4
  a4 := Tryd.isAgg4
  z4 := Tryd.sizeOf4
  v4 := Tryd.zeroValue4
  t5 := Tryd.underlying5
  a5 := Tryd.isAgg5
  z5 := Tryd.sizeOf5
  v5 := Tryd.zeroValue5
  t9 := Tryd.underlying9
  a9 := Tryd.isAgg9
  z9 := Tryd.sizeOf9
  v9 := Tryd.zeroValue9
  t20 := Tryd.underlying20
  a20 := Tryd.isAgg20
  z20 := Tryd.sizeOf20
  v20 := Tryd.zeroValue20
  t37 := Tryd.underlying67
  a37 := Tryd.isAgg67
  z37 := Tryd.sizeOf67
  v37 := Tryd.zeroValue67
  t46 := Tryd.underlying154
  a46 := Tryd.isAgg154
  z46 := Tryd.sizeOf154
  v46 := Tryd.zeroValue154
  t51 := Tryd.underlying183
  a51 := Tryd.isAgg183
  z51 := Tryd.sizeOf183
  v51 := Tryd.zeroValue183
  t53 := Tryd.underlying153
  a53 := Tryd.isAgg153
  z53 := Tryd.sizeOf153
  v53 := Tryd.zeroValue153
  t171 := Tryd.underlying188
  a171 := Tryd.isAgg188
  z171 := Tryd.sizeOf188
  v171 := Tryd.zeroValue188
  t173 := Tryd.underlying190
  a173 := Tryd.isAgg190
  z173 := Tryd.sizeOf190
  v173 := Tryd.zeroValue190
  t212 := Tryd.underlying201
  a212 := Tryd.isAgg201
  z212 := Tryd.sizeOf201
  v212 := Tryd.zeroValue201
  t213 := Tryd.underlying202
  a213 := Tryd.isAgg202
  z213 := Tryd.sizeOf202
  t232 := Tryd.underlying209
  a232 := Tryd.isAgg209
  z232 := Tryd.sizeOf209
  v232 := Tryd.zeroValue209
  t233 := Tryd.underlying210
  a233 := Tryd.isAgg210
  z233 := Tryd.sizeOf210
  v233 := Tryd.zeroValue210
  g17 := by kernel_rfl
  g18 := by kernel_rfl
  g19 := by kernel_rfl
  i0 := by kernel_rfl
  i2 := by kernel_rfl
  i3 := by kernel_rfl
  i4 := by kernel_rfl
  i5 := by kernel_rfl
  i9 := by kernel_rfl
  i20 := by kernel_rfl
  i37 := by kernel_rfl
  i46 := by kernel_rfl
  i51 := by kernel_rfl
  i53 := by kernel_rfl
  i171 := by kernel_rfl
  i173 := by kernel_rfl
  i212 := by kernel_rfl
  i232 := by kernel_rfl
  i233 := by kernel_rfl
  m17 := by kernel_rfl
  m18 := by kernel_rfl
  m19 := by kernel_rfl }
open Go.RowKit Go.Sort Go.Lib in
theorem Tryd.strconv_Itoa (n : Int) (h0 : -9223372036854775808 ≤ n) (h1 : n ≤ 9223372036854775807) (w : World) (htab : Lib.TabIs Tryd.prog w "internal/strconv.uint64pow10" .u64 Lib.pow10Tab) :
    Calls Tryd.prog 74 #[.int .i64 n] w fun e w' => e = .returned (.string ⟨(Lib.itoa n).toArray⟩) ∧ ∃ k os, w' = grow (w.drewN k) os := Any.strconv_Itoa Tryd.laysM171 n h0 h1 w htab
def Tryd.lays171_ren : Go.Shelf.Ren := ⟨fun | 171 => 74 | 243 => 118 | 246 => 145 | 283 => 169 | 284 => 170 | 285 => 171 | 286 => 172 | 129 => 160 | 317 => 185 | 318 => 186 | 319 => 187 | 320 => 188 | 337 => 190 | 338 => 191 | n => n, fun | 3 => 3 | 9 => 9 | 2 => 2 | 4 => 4 | 171 => 188 | 0 => 0 | 53 => 153 | 37 => 67 | 5 => 5 | 173 => 190 | 212 => 201 | 51 => 183 | 20 => 20 | 213 => 202 | 46 => 154 | 232 => 209 | 233 => 210 | n => n, fun | 17 => 1 | 18 => 4 | 19 => 5 | n => n⟩
def Tryd.lays217_ren : Go.Shelf.Ren := ⟨fun | 217 => 164 | 266 => 182 | n => n, fun | 9 => 9 | 5 => 5 | 3 => 3 | n => n, fun | n => n⟩
def Tryd.lays224_ren : Go.Shelf.Ren := ⟨fun | 224 => 166 | n => n, fun | 3 => 3 | n => n, fun | n => n⟩
def Tryd.lays314_ren : Go.Shelf.Ren := ⟨fun | 314 => 183 | n => n, fun | 9 => 9 | 51 => 183 | 3 => 3 | 4 => 4 | 5 => 5 | 46 => 154 | n => n, fun | n => n⟩
def Tryd.lays267_ren : Go.Shelf.Ren := ⟨fun | 267 => 167 | 314 => 183 | n => n, fun | 9 => 9 | 3 => 3 | 146 => 198 | 51 => 183 | 4 => 4 | 5 => 5 | 46 => 154 | n => n, fun | n => n⟩
def Tryd.lays219_ren : Go.Shelf.Ren := ⟨fun | 219 => 136 | 217 => 164 | 225 => 165 | 224 => 166 | 267 => 167 | 266 => 182 | 314 => 183 | n => n, fun | 9 => 9 | 3 => 3 | 4 => 4 | 5 => 5 | 46 => 154 | 146 => 198 | 51 => 183 | n => n, fun | 1 => 0 | n => n⟩
def Tryd.lays143_ren : Go.Shelf.Ren := ⟨fun | 143 => 135 | 219 => 136 | 217 => 164 | 225 => 165 | 224 => 166 | 267 => 167 | 266 => 182 | 314 => 183 | n => n, fun | 9 => 9 | 3 => 3 | 4 => 4 | 5 => 5 | 46 => 154 | 146 => 198 | 51 => 183 | n => n, fun | 1 => 0 | n => n⟩
def Tryd.lays220_ren : Go.Shelf.Ren := ⟨fun | 220 => 104 | 219 => 136 | 217 => 164 | 225 => 165 | 224 => 166 | 267 => 167 | 266 => 182 | 314 => 183 | n => n, fun | 9 => 9 | 4 => 4 | 3 => 3 | 5 => 5 | 46 => 154 | 146 => 198 | 51 => 183 | n => n, fun | 1 => 0 | n => n⟩
def Tryd.lays145_ren : Go.Shelf.Ren := ⟨fun | 145 => 63 | 220 => 104 | 219 => 136 | 217 => 164 | 225 => 165 | 224 => 166 | 267 => 167 | 266 => 182 | 314 => 183 | n => n, fun | 9 => 9 | 4 => 4 | 59 => 92 | 3 => 3 | 5 => 5 | 46 => 154 | 146 => 198 | 51 => 183 | n => n, fun | 1 => 0 | n => n⟩
theorem Tryd.lays145 : Go.Proofs.Lays.n145 Tryd.prog Tryd.lays145_ren := {
  mixed := by kernel_rfl
  f145 := Tryd.func63.trans (congrArg some (by kernel_rfl))
  f217 := Tryd.func164.trans (congrArg some (by kernel_rfl))
  f219 := Tryd.func136.trans (congrArg some (by kernel_rfl))
  f220 := Tryd.func104.trans (congrArg some (by kernel_rfl))
  f224 := Tryd.func166.trans (congrArg some (by kernel_rfl))
  f225 := Tryd.func165.trans (congrArg some (by kernel_rfl))
  f266 := Tryd.func182.trans (congrArg some (by kernel_rfl))
  f267 := Tryd.func167.trans (congrArg some (by kernel_rfl))
  f314 := Tryd.func183.trans (congrArg some (by kernel_rfl))
  t3 := Tryd.underlying3
  a3 := Tryd.isAgg3
  z3 := Tryd.sizeOf3
  v3 := Tryd.zeroValue3
  t4 := Tryd.underlying4
  a4 := Tryd.isAgg4
  z4 := Tryd.sizeOf4
  v4 := Tryd.zeroValue4
  t5 := Tryd.underlying5
  a5 := Tryd.isAgg5
  z5 := Tryd.sizeOf5
  v5 := Tryd.zeroValue5
  t9 := Tryd.underlying9
  a9 := Tryd.isAgg9
  z9 := Tryd.sizeOf9
  v9 := Tryd.zeroValue9
  t46 := Tryd.underlying154
  a46 := Tryd.isAgg154
  z46 := Tryd.sizeOf154
  v46 := Tryd.zeroValue154
  t51 := Tryd.underlying183
  a51 := Tryd.isAgg183
  z51 := Tryd.sizeOf183
  v51 := Tryd.zeroValue183
  t59 := Tryd.underlying92
  a59 := Tryd.isAgg92
  z59 := Tryd.sizeOf92
  v59 := Tryd.zeroValue92
  t146 := Tryd.underlying198
  a146 := Tryd.isAgg198
  z146 := Tryd.sizeOf198
  v146 := Tryd.zeroValue198
  g1 := by kernel_rfl }
open Go.RowKit Go.Lib in
theorem Tryd.strings_Cut (s sep : ByteArray) (m : Int) (w : World) (hs : s.size < 4294967281) (hm : w.cell? ⟨0, 0, none⟩ = some (.int .i64 m)) :
    Calls Tryd.prog 63 #[.string s, .string sep] w fun e w' => e = .returned (.tuple #[.string ⟨(Lib.cut s.data.toList sep.data.toList).1.toArray⟩, .string ⟨(Lib.cut s.data.toList sep.data.toList).2.1.toArray⟩, .bool (Lib.cut s.data.toList sep.data.toList).2.2]) ∧ ∃ n, w' = w.drewN n := Any.strings_Cut Tryd.lays145 s sep m w hs hm
def Tryd.lays138_ren : Go.Shelf.Ren := ⟨fun | 138 => 134 | 195 => 161 | 218 => 163 | 143 => 135 | 219 => 136 | 217 => 164 | 225 => 165 | 224 => 166 | 267 => 167 | 266 => 182 | 314 => 183 | n => n, fun | 9 => 9 | 3 => 3 | 4 => 4 | 5 => 5 | 0 => 0 | 46 => 154 | 146 => 198 | 51 => 183 | n => n, fun | 1 => 0 | n => n⟩
def Tryd.laysM219_ren : Go.Shelf.Ren := ⟨fun | 219 => 136 | 217 => 164 | 225 => 165 | 224 => 166 | 267 => 167 | 266 => 182 | 314 => 183 | n => n, fun | 9 => 9 | 3 => 3 | 4 => 4 | 5 => 5 | 46 => 154 | 146 => 198 | 51 => 183 | n => n, fun | 1 => 0 | n => n⟩
def Tryd.laysM143_ren : Go.Shelf.Ren := ⟨fun | 143 => 135 | 219 => 136 | 217 => 164 | 225 => 165 | 224 => 166 | 267 => 167 | 266 => 182 | 314 => 183 | n => n, fun | 9 => 9 | 3 => 3 | 4 => 4 | 5 => 5 | 46 => 154 | 146 => 198 | 51 => 183 | n => n, fun | 1 => 0 | n => n⟩
def Tryd.laysM220_ren : Go.Shelf.Ren := ⟨fun | 220 => 104 | 219 => 136 | 217 => 164 | 225 => 165 | 224 => 166 | 267 => 167 | 266 => 182 | 314 => 183 | n => n, fun | 9 => 9 | 4 => 4 | 3 => 3 | 5 => 5 | 46 => 154 | 146 => 198 | 51 => 183 | n => n, fun | 1 => 0 | n => n⟩
def Tryd.laysM145_ren : Go.Shelf.Ren := ⟨fun | 145 => 63 | 220 => 104 | 219 => 136 | 217 => 164 | 225 => 165 | 224 => 166 | 267 => 167 | 266 => 182 | 314 => 183 | n => n, fun | 9 => 9 | 4 => 4 | 59 => 92 | 3 => 3 | 5 => 5 | 46 => 154 | 146 => 198 | 51 => 183 | n => n, fun | 1 => 0 | n => n⟩
def Tryd.laysM138_ren : Go.Shelf.Ren := ⟨fun | 138 => 134 | 195 => 161 | 218 => 163 | 143 => 135 | 219 => 136 | 217 => 164 | 225 => 165 | 224 => 166 | 267 => 167 | 266 => 182 | 314 => 183 | n => n, fun | 9 => 9 | 3 => 3 | 4 => 4 | 5 => 5 | 0 => 0 | 46 => 154 | 146 => 198 | 51 => 183 | n => n, fun | 1 => 0 | n => n⟩
def Tryd.lays190_ren : Go.Shelf.Ren := ⟨fun | 190 => 101 | 125 => 132 | 258 => 131 | 128 => 159 | 129 => 160 | 302 => 150 | 303 => 151 | 304 => 152 | 305 => 153 | 306 => 154 | 307 => 155 | 308 => 156 | 309 => 157 | 310 => 158 | 333 => 175 | 329 => 176 | 330 => 177 | 334 => 178 | 335 => 179 | 336 => 180 | 344 => 189 | n => n, fun | 31 => 36 | 9 => 9 | 3 => 3 | 46 => 154 | 0 => 0 | 51 => 183 | 53 => 153 | 4 => 4 | 183 => 177 | 182 => 176 | 131 => 139 | 5 => 5 | 218 => 194 | 222 => 124 | 228 => 203 | 229 => 166 | n => n, fun | n => n⟩
def Tryd.lays206_ren : Go.Shelf.Ren := ⟨fun | 206 => 184 | n => n, fun | 9 => 9 | 4 => 4 | 3 => 3 | n => n, fun | n => n⟩
def Tryd.lays221_ren : Go.Shelf.Ren := ⟨fun | 221 => 103 | 268 => 133 | 138 => 134 | 143 => 135 | 195 => 161 | 197 => 162 | 218 => 163 | 219 => 136 | 260 => 181 | 217 => 164 | 225 => 165 | 224 => 166 | 267 => 167 | 266 => 182 | 314 => 183 | n => n, fun | 9 => 9 | 3 => 3 | 31 => 36 | 4 => 4 | 0 => 0 | 105 => 185 | 21 => 21 | 5 => 5 | 46 => 154 | 119 => 205 | 139 => 208 | 138 => 207 | 146 => 198 | 51 => 183 | n => n, fun | 1 => 0 | 3 => 2 | 4 => 3 | n => n⟩
def Tryd.lays146_ren : Go.Shelf.Ren := ⟨fun | 146 => 62 | 221 => 103 | 268 => 133 | 138 => 134 | 143 => 135 | 195 => 161 | 197 => 162 | 218 => 163 | 219 => 136 | 260 => 181 | 217 => 164 | 225 => 165 | 224 => 166 | 267 => 167 | 266 => 182 | 314 => 183 | n => n, fun | 9 => 9 | 31 => 36 | 3 => 3 | 4 => 4 | 0 => 0 | 105 => 185 | 21 => 21 | 5 => 5 | 46 => 154 | 119 => 205 | 139 => 208 | 138 => 207 | 146 => 198 | 51 => 183 | n => n, fun | 1 => 0 | 3 => 2 | 4 => 3 | n => n⟩
theorem Tryd.lays146 : Go.Proofs.Lays.n146 Tryd.prog Tryd.lays146_ren := {
  mixed := by kernel_rfl
  f138 := Tryd.func134.trans (congrArg some (by kernel_rfl))
  f143 := Tryd.func135.trans (congrArg some (by kernel_rfl))
  f146 := Tryd.func62.trans (congrArg some (by kernel_rfl))
  f195 := Tryd.func161.trans (congrArg some (by kernel_rfl))
  f197 := Tryd.func162.trans (congrArg some (by kernel_rfl))
  f217 := Tryd.func164.trans (congrArg some (by kernel_rfl))
  f218 := Tryd.func163.trans (congrArg some (by kernel_rfl))
  f219 := Tryd.func136.trans (congrArg some (by kernel_rfl))
  f221 := Tryd.func103.trans (congrArg some (by kernel_rfl))
  f224 := Tryd.func166.trans (congrArg some (by kernel_rfl))
  f225 := Tryd.func165.trans (congrArg some (by kernel_rfl))
  f260 := Tryd.func181.trans (congrArg some (by kernel_rfl))
  f266 := Tryd.func182.trans (congrArg some (by kernel_rfl))
  f267 := Tryd.func167.trans (congrArg some (by kernel_rfl))
  f268 := Tryd.func133.trans (congrArg some (by kernel_rfl))
  f314 := Tryd.func183.trans (congrArg some (by kernel_rfl))
  t0 := Tryd.underlying0
  a0 := Tryd.isAgg0
  z0 := Tryd.sizeOf0
  v0 := Tryd.zeroValue0
  t3 := Tryd.underlying3
  a3 := Tryd.isAgg3
  z3 := Tryd.sizeOf3
  v3 := Tryd.zeroValue3
  t4 := Tryd.underlying4
  a4 := Tryd.isAgg4
  z4 := Tryd.sizeOf4
  v4 := Tryd.zeroValue4
  t5 := Tryd.underlying5
  a5 := Tryd.isAgg5
  z5 := Tryd.sizeOf5
  v5 := Tryd.zeroValue5
  t9 := Tryd.underlying9
  a9 := Tryd.isAgg9
  z9 := Tryd.sizeOf9
  v9 := Tryd.zeroValue9
  t21 := Tryd.underlying21
  a21 := Tryd.isAgg21
  z21 := Tryd.sizeOf21
  v21 := Tryd.zeroValue21
  t31 := Tryd.underlying36
  a31 := Tryd.isAgg36
  z31 := Tryd.sizeOf36
  v31 := Tryd.zeroValue36
  t46 := Tryd.underlying154
  a46 := Tryd.isAgg154
  z46 := Tryd.sizeOf154
  v46 := Tryd.zeroValue154
  t51 := Tryd.underlying183
  a51 := Tryd.isAgg183
  z51 := Tryd.sizeOf183
  v51 := Tryd.zeroValue183
  t105 := Tryd.underlying185
  a105 := Tryd.isAgg185
  z105 := Tryd.sizeOf185
  v105 := Tryd.zeroValue185
  t119 := Tryd.underlying205
  a119 := Tryd.isAgg205
  z119 := Tryd.sizeOf205
  t138 := Tryd.underlying207
  a138 := Tryd.isAgg207
  z138 := Tryd.sizeOf207
  v138 := Tryd.zeroValue207
  t139 := Tryd.underlying208
  a139 := Tryd.isAgg208
  z139 := Tryd.sizeOf208
  v139 := Tryd.zeroValue208
  t146 := Tryd.underlying198
  a146 := Tryd.isAgg198
  z146 := Tryd.sizeOf198
  v146 := Tryd.zeroValue198
  g1 := by kernel_rfl
  g3 := by kernel_rfl
  g4 := by kernel_rfl }
open Go.RowKit Go.Lib in
theorem Tryd.strings_Split (s sep : ByteArray) (m : Int) (w : World) (hs : s.size < 4294967281) (hm : w.cell? ⟨0, 0, none⟩ = some (.int .i64 m)) (h1 : 1 ≤ sep.size) :
    Calls Tryd.prog 62 #[.string s, .string sep] w fun e w' =>
      e = .returned (.slice (some ⟨w.heap.size, 0, none⟩) (Lib.countB s sep + 1) (Lib.countB s sep + 1)) ∧ w' = w.alloc (.cells ((Lib.splitB sep 0 (Lib.countB s sep) s).map Value.string).toArray 9) := Any.strings_Split Tryd.lays146 (by kernel_rfl) s sep m w hs hm h1
def Tryd.laysM146_ren : Go.Shelf.Ren := ⟨fun | 146 => 62 | 221 => 103 | 268 => 133 | 138 => 134 | 143 => 135 | 195 => 161 | 197 => 162 | 218 => 163 | 219 => 136 | 260 => 181 | 217 => 164 | 225 => 165 | 224 => 166 | 267 => 167 | 266 => 182 | 314 => 183 | n => n, fun | 9 => 9 | 31 => 36 | 3 => 3 | 4 => 4 | 0 => 0 | 105 => 185 | 21 => 21 | 5 => 5 | 46 => 154 | 119 => 205 | 139 => 208 | 138 => 207 | 146 => 198 | 51 => 183 | n => n, fun | 1 => 0 | 3 => 2 | 4 => 3 | n => n⟩
def Tryd.lays197_ren : Go.Shelf.Ren := ⟨fun | 197 => 162 | 260 => 181 | n => n, fun | 9 => 9 | 21 => 21 | 3 => 3 | 4 => 4 | 5 => 5 | 105 => 185 | 119 => 205 | 0 => 0 | 46 => 154 | 139 => 208 | 138 => 207 | n => n, fun | 3 => 2 | 4 => 3 | n => n⟩
def Tryd.lays268_ren : Go.Shelf.Ren := ⟨fun | 268 => 133 | 195 => 161 | 197 => 162 | 260 => 181 | n => n, fun | 9 => 9 | 3 => 3 | 31 => 36 | 4 => 4 | 105 => 185 | 21 => 21 | 0 => 0 | 5 => 5 | 119 => 205 | 46 => 154 | 139 => 208 | 138 => 207 | n => n, fun | 3 => 2 | 4 => 3 | n => n⟩
def Tryd.lays260_ren : Go.Shelf.Ren := ⟨fun | 260 => 181 | n => n, fun | 9 => 9 | 21 => 21 | 3 => 3 | 4 => 4 | 5 => 5 | 119 => 205 | 0 => 0 | 46 => 154 | 139 => 208 | 138 => 207 | n => n, fun | 3 => 2 | 4 => 3 | n => n⟩
def Tryd.lays108_ren : Go.Shelf.Ren := ⟨fun | 108 => 144 | n => n, fun | 28 => 26 | 3 => 3 | 0 => 0 | 4 => 4 | n => n, fun | n => n⟩
def Tryd.lays107_ren : Go.Shelf.Ren := ⟨fun | 107 => 115 | 108 => 144 | n => n, fun | 28 => 26 | 3 => 3 | 4 => 4 | 0 => 0 | n => n, fun | n => n⟩
theorem Tryd.lays107 : Go.Proofs.Lays.n107 Tryd.prog Tryd.lays107_ren := {
  mixed := by kernel_rfl
  f107 := Tryd.func115.trans (congrArg some (by kernel_rfl))
  f108 := Tryd.func144.trans (congrArg some (by kernel_rfl))
  t0 := Tryd.underlying0
  a0 := Tryd.isAgg0
  z0 := Tryd.sizeOf0
  v0 := Tryd.zeroValue0
  t3 := Tryd.underlying3
  a3 := Tryd.isAgg3
  z3 := Tryd.sizeOf3
  v3 := Tryd.zeroValue3
  t4 := Tryd.underlying4
  a4 := Tryd.isAgg4
  z4 := Tryd.sizeOf4
  v4 := Tryd.zeroValue4
  t28 := Tryd.underlying26
  a28 := Tryd.isAgg26
  z28 := Tryd.sizeOf26
  v28 := Tryd.zeroValue26 }
open Go.Lib in
theorem Tryd.slices_Contains_int (b off n c : Nat) (zs : List Int) (x : Int) (w : World) (hz : n ≤ zs.length) (hbig : n ≤ 9223372036854775807) (hc : ∀ j, j < zs.length → w.cell? ⟨b, off + j, none⟩ = some (.int .i64 (zs.getD j 0))) :
    Calls Tryd.prog 115 #[.slice (some ⟨b, off, none⟩) n c, .int .i64 x] w fun e w' => e = .returned (.bool ((zs.take n).contains x)) ∧ w' = w := Any.slices_Contains_int Tryd.lays107 b off n c zs x w hz hbig hc
def Tryd.lays109_ren : Go.Shelf.Ren := ⟨fun | 109 => 130 | n => n, fun | 31 => 36 | 9 => 9 | 3 => 3 | 0 => 0 | 4 => 4 | n => n, fun | n => n⟩
def Tryd.lays110_ren : Go.Shelf.Ren := ⟨fun | 110 => 100 | 109 => 130 | n => n, fun | 31 => 36 | 9 => 9 | 4 => 4 | 3 => 3 | 0 => 0 | n => n, fun | n => n⟩
def Tryd.laysNm215_ren : Go.Shelf.Ren := ⟨fun | 15 => 88 | n => n, fun | 22 => 26 | 3 => 3 | 4 => 4 | n => n, fun | n => n⟩
def Tryd.laysNm216_ren : Go.Shelf.Ren := ⟨fun | 16 => 84 | n => n, fun | 24 => 36 | 9 => 9 | 4 => 4 | n => n, fun | n => n⟩
def Tryd.lays194_ren : Go.Shelf.Ren := ⟨fun | 194 => 102 | n => n, fun | 31 => 36 | 9 => 9 | 3 => 3 | 4 => 4 | 0 => 0 | n => n, fun | n => n⟩
def Tryd.laysSlE041_f84_ren : Go.Shelf.Ren := ⟨fun | 41 => 84 | n => n, fun | 22 => 36 | 23 => 9 | 4 => 4 | n => n, fun | n => n⟩
def Tryd.laysSlE041_f88_ren : Go.Shelf.Ren := ⟨fun | 41 => 88 | n => n, fun | 22 => 26 | 23 => 3 | 4 => 4 | n => n, fun | n => n⟩
end Go.Proofs

/- The pieces of a text between signs: what the library's Cut and Split tell, by one plain function. Plain theorems: no condition. -/
namespace Go.Proofs.YteoihdkaoipocaaDoor
open Go.RowKit

def ofL (l : List UInt8) : ByteArray := ⟨l.toArray⟩
theorem ofL_toL (l : List UInt8) : (ofL l).data.toList = l := by simp [ofL]
theorem ofL_of (s : ByteArray) : ofL s.data.toList = s := rfl
theorem ofL_inj {a b : List UInt8} (h : ofL a = ofL b) : a = b := by rw [← ofL_toL a, h, ofL_toL]
theorem ofL_size (l : List UInt8) : (ofL l).size = l.length := rfl
theorem toL_inj {a b : ByteArray} (h : a.data.toList = b.data.toList) : a = b := by rw [← ofL_of a, h, ofL_of]
theorem toL_len (s : ByteArray) : s.data.toList.length = s.size := rfl

/-- a text's pieces between signs -/
def cutAll (x : UInt8) : List UInt8 → List (List UInt8)
  | [] => [[]]
  | b :: l => if b = x then [] :: cutAll x l else (b :: (cutAll x l).headD []) :: (cutAll x l).tail
theorem cutAll_ne (x : UInt8) (l : List UInt8) : cutAll x l ≠ [] := by
  cases l with
  | nil => simp [cutAll]
  | cons b l => unfold cutAll; split <;> simp
theorem cutAll_no {x : UInt8} {l : List UInt8} (h : x ∉ l) : cutAll x l = [l] := by
  induction l with
  | nil => rfl
  | cons b l ih =>
    have h1 : ¬ b = x := fun e => h (by rw [e]; exact List.mem_cons_self ..)
    have h2 := ih (fun e => h (List.mem_cons_of_mem _ e))
    unfold cutAll
    rw [if_neg h1, h2]; rfl
theorem cutAll_hit {x : UInt8} {a r : List UInt8} (h : x ∉ a) : cutAll x (a ++ x :: r) = a :: cutAll x r := by
  induction a with
  | nil => show cutAll x (x :: r) = _; rw [cutAll, if_pos rfl]
  | cons b a ih =>
    have h1 : ¬ b = x := fun e => h (by rw [e]; exact List.mem_cons_self ..)
    have h2 := ih (fun e => h (List.mem_cons_of_mem _ e))
    show cutAll x (b :: (a ++ x :: r)) = _
    rw [cutAll, if_neg h1, h2]; rfl
theorem first_of (x : UInt8) (l : List UInt8) : x ∉ l ∨ ∃ a r, l = a ++ x :: r ∧ x ∉ a := by
  induction l with
  | nil => exact .inl (by simp)
  | cons b l ih =>
    by_cases e : b = x
    · exact .inr ⟨[], l, by rw [e]; rfl, by simp⟩
    · rcases ih with h | ⟨a, r, h1, h2⟩
      · exact .inl (by simp [h]; exact fun c => e c.symm)
      · exact .inr ⟨b :: a, r, by rw [h1]; rfl, by simp [h2]; exact fun c => e c.symm⟩

theorem index_no {x : UInt8} {l : List UInt8} (h : x ∉ l) : Lib.index l [x] = -1 := by
  induction l with
  | nil => rfl
  | cons b l ih =>
    have h1 : ¬ x = b := fun e => h (by rw [e]; exact List.mem_cons_self ..)
    have h2 := ih (fun e => h (List.mem_cons_of_mem _ e))
    unfold Lib.index
    have e : [x].isPrefixOf (b :: l) = false := by simp [List.isPrefixOf, h1]
    rw [e, h2]; rfl
theorem index_hit {x : UInt8} {a r : List UInt8} (h : x ∉ a) : Lib.index (a ++ x :: r) [x] = a.length := by
  induction a with
  | nil =>
    show Lib.index (x :: r) [x] = _
    unfold Lib.index
    have e : [x].isPrefixOf (x :: r) = true := by simp [List.isPrefixOf]
    rw [e]; rfl
  | cons b a ih =>
    have h1 : ¬ x = b := fun e => h (by rw [e]; exact List.mem_cons_self ..)
    have h2 := ih (fun e => h (List.mem_cons_of_mem _ e))
    show Lib.index (b :: (a ++ x :: r)) [x] = _
    unfold Lib.index
    have e : [x].isPrefixOf (b :: (a ++ x :: r)) = false := by simp [List.isPrefixOf, h1]
    rw [e, h2]
    have e2 : ((a.length : Int) == -1) = false := by simp only [beq_eq_false_iff_ne]; omega
    simp [e2]
theorem cut_no {x : UInt8} {l : List UInt8} (h : x ∉ l) : Lib.cut l [x] = (l, [], false) := by
  unfold Lib.cut; rw [index_no h]; rfl
theorem cut_hit {x : UInt8} {a r : List UInt8} (h : x ∉ a) : Lib.cut (a ++ x :: r) [x] = (a, r, true) := by
  unfold Lib.cut
  rw [index_hit h, if_pos (by omega)]
  simp

theorem splitB_cutAll (x : UInt8) : ∀ (n : Nat) (s : ByteArray), s.size ≤ n → Lib.splitB (ofL [x]) 0 (Lib.countB s (ofL [x])) s = (cutAll x s.data.toList).map ofL ∧ Lib.countB s (ofL [x]) + 1 = (cutAll x s.data.toList).length := by
  intro n
  induction n with
  | zero =>
    intro s hs
    have h0 : s.data.toList = [] := List.length_eq_zero_iff.1 (by rw [toL_len]; omega)
    have hi : Lib.indexB s (ofL [x]) = -1 := by show Lib.index s.data.toList [x] = -1; exact index_no (by rw [h0]; simp)
    rw [Lib.countB_miss s _ hi, Lib.splitB_zero, h0]
    exact ⟨by rw [← ofL_of s, h0]; rfl, rfl⟩
  | succ n ih =>
    intro s hs
    rcases first_of x s.data.toList with h | ⟨a, r, h1, h2⟩
    · have hi : Lib.indexB s (ofL [x]) = -1 := by show Lib.index s.data.toList [x] = -1; exact index_no h
      rw [Lib.countB_miss s _ hi, Lib.splitB_zero, cutAll_no h]
      exact ⟨rfl, rfl⟩
    · have hi : Lib.indexB s (ofL [x]) = (a.length : Nat) := by show Lib.index s.data.toList [x] = _; rw [h1]; exact index_hit h2
      have hr : s.extract (a.length + (ofL [x]).size) s.size = ofL r := toL_inj (by
        rw [Lib.extract_to_end, ofL_toL, h1, ofL_size]
        show List.drop (a.length + 1) (a ++ x :: r) = r
        rw [List.drop_append]; simp)
      have ha : s.extract 0 (a.length + 0) = ofL a := toL_inj (by rw [Lib.extract_from_zero, ofL_toL, h1]; simp)
      have hl : (ofL r).size ≤ n := by
        have : s.data.toList.length = a.length + (r.length + 1) := by rw [h1]; simp
        rw [toL_len] at this
        rw [ofL_size]; omega
      obtain ⟨i1, i2⟩ := ih (ofL r) hl
      rw [ofL_toL] at i1 i2
      have hc := Lib.countB_hit s (ofL [x]) a.length (Nat.le_refl _) hi
      rw [hr] at hc
      rw [hc, Nat.add_comm 1, Lib.splitB_hit _ _ _ _ _ hi, hr, ha, i1, h1, cutAll_hit h2]
      exact ⟨rfl, by simp [← i2]⟩

/-- the library's variable that the search reads holds a number -/
def Mx (w : World) : Prop := ∃ m, w.cell? ⟨0, 0, none⟩ = some (.int .i64 m)
theorem Mx.pos {w : World} (h : Mx w) : 0 < w.heap.size := by
  obtain ⟨m, h⟩ := h
  simp only [World.cell?] at h
  cases hx : w.heap[0]? with
  | none => simp [hx] at h
  | some o => exact (Array.getElem?_eq_some_iff.1 hx).1
theorem Mx.below {w w' : World} {B : Nat} (h : Mx w) (hb : Below B w w') (hB : 0 < B) : Mx w' := by
  obtain ⟨m, h⟩ := h
  exact ⟨m, (below_cell hb hB).trans h⟩
theorem Mx.low {w w' : World} (h : Mx w) (hb : Below w.heap.size w w') : Mx w' := h.below hb h.pos
theorem cut_call (s : ByteArray) (x : UInt8) (w : World) (h : Mx w) (hs : s.size < 4294967281) :
    Calls Tryd.prog 63 #[.string s, .string (ofL [x])] w fun e w' => (∃ a r b, e = .returned (.tuple #[.string (ofL a), .string (ofL r), .bool b]) ∧ ((b = false ∧ a = s.data.toList ∧ r = [] ∧ x ∉ a) ∨ (b = true ∧ s.data.toList = a ++ x :: r ∧ x ∉ a))) ∧ ∃ n, w' = w.drewN n := by
  obtain ⟨m, hm⟩ := h
  refine (Tryd.strings_Cut s (ofL [x]) m w hs hm).mono fun e w' ⟨he, hn⟩ => ?_
  refine ⟨?_, hn⟩
  rw [ofL_toL] at he
  rcases first_of x s.data.toList with hc | ⟨a, r, h1, h2⟩
  · rw [cut_no hc] at he
    exact ⟨s.data.toList, [], false, he, .inl ⟨rfl, rfl, rfl, hc⟩⟩
  · rw [h1, cut_hit h2] at he
    exact ⟨a, r, true, he, .inr ⟨rfl, h1, h2⟩⟩
theorem split_call (s : ByteArray) (x : UInt8) (w : World) (h : Mx w) (hs : s.size < 4294967281) :
    Calls Tryd.prog 62 #[.string s, .string (ofL [x])] w fun e w' => e = .returned (.slice (some ⟨w.heap.size, 0, none⟩) (cutAll x s.data.toList).length (cutAll x s.data.toList).length) ∧ w' = w.alloc (.cells (((cutAll x s.data.toList).map ofL).map Value.string).toArray 9) := by
  obtain ⟨m, hm⟩ := h
  refine (Tryd.strings_Split s (ofL [x]) m w hs hm (Nat.le_refl _)).mono fun e w' ⟨he, hn⟩ => ?_
  obtain ⟨i1, i2⟩ := splitB_cutAll x s.size s (Nat.le_refl _)
  rw [i2] at he
  rw [i1] at hn
  exact ⟨he, hn⟩
end Go.Proofs.YteoihdkaoipocaaDoor

/- vec.Read: the amount of a text. -/
namespace Go.Proofs.YteoihdkaoipocaaDoor
open Go.RowKit

def pnum (ps : List (List UInt8)) (j : Nat) : Int := numOf (ofL (ps.getD j [])) 10
/-- the four numbers of a text's pieces -/
def vecP (ps : List (List UInt8)) : V4 := ⟨pnum ps 0, pnum ps 1, pnum ps 2, pnum ps 3⟩
/-- what is read: the amount, and the error -/
def vecOf (s : ByteArray) : V4 × Int := if (cutAll 44 s.data.toList).length = 4 then (vecP (cutAll 44 s.data.toList)).told 11 else (V4.zero, 11)
theorem vecOf_no {s : ByteArray} (h : (cutAll 44 s.data.toList).length ≠ 4) : vecOf s = (V4.zero, 11) := if_neg h
theorem getD_app {α : Type} (a : List α) (x : α) (b : List α) (d : α) (k : Nat) (hk : a.length = k) : (a ++ x :: b).getD k d = x := by
  subst hk; simp [List.getD]
theorem getD_old {α : Type} (a b : List α) (d : α) {j : Nat} (hj : j < a.length) : (a ++ b).getD j d = a.getD j d := by
  simp [List.getD, List.getElem?_append_left hj]
structure VrW (w : World) (s0 : ByteArray) (k : Nat) (done : List (List UInt8)) (rest : List UInt8) (f : Nat → Int) (wr : World) : Prop where
  low : Below w.heap.size w wr
  mx : Mx wr
  res : wr.heap[w.heap.size]? = some (.cells V4.zero.cells 25 (0, 0))
  arr : wr.heap[w.heap.size + 1]? = some (.cells #[.int .i64 (f 0), .int .i64 (f 1), .int .i64 (f 2), .int .i64 (f 3)] 25 (0, 0))
  val : ∀ j, j < k → f j = pnum done j
  len : done.length = k
  cut : if k < 4 then cutAll 44 s0.data.toList = done ++ cutAll 44 rest else cutAll 44 s0.data.toList = done
  rlen : rest.length ≤ s0.size
theorem cutAll_pos (x : UInt8) (l : List UInt8) : 1 ≤ (cutAll x l).length := by
  cases h : cutAll x l with
  | nil => exact absurd h (cutAll_ne _ _)
  | cons p ps => simp

theorem below_dn (B : Nat) (w : World) (n : Nat) : Below B w (w.drewN n) := ⟨rfl, rfl, rfl, Nat.le_refl _, fun _ _ => rfl⟩
theorem below_drewT {w w' : World} {n : Nat} (h : Below (w.drewN n).heap.size (w.drewN n) w') : Below w.heap.size w w' := (below_dn _ _ _).trans h

set_option maxRecDepth 100000 in
set_option maxHeartbeats 3200000 in
theorem vread_any (s0 : ByteArray) (w : World) (hm : Mx w) (hs : s0.size ≤ 4294967280) : Calls Tryd.prog 105 #[.string s0] w fun e w' => e = .returned (.tuple #[(vecOf s0).1.val, .int .i64 (vecOf s0).2]) ∧ Below w.heap.size w w' := by
  have hpos := hm.pos
  have h0 : VrW w s0 0 [] s0.data.toList (fun _ => 0) ((w.alloc (.cells V4.zero.cells 25 (0, 0))).alloc (.cells V4.zero.cells 25 (0, 0))) :=
    ⟨((Below.refl _ _).alloc (Nat.le_refl _) _).alloc (by simp) _, hm.low (((Below.refl _ _).alloc (Nat.le_refl _) _).alloc (by simp) _), blk_old _ (blk_new _ _), blk_at _ _ (by simp), fun j hj => absurd hj (Nat.not_lt_zero _), rfl, by simp, Nat.le_refl _⟩
  replace h0 := Lib.hid h0; replace hm := Lib.hid hm; replace hpos := Lib.hid hpos
  go_enter Tryd.func105, Tryd.ntmps105
  go_wp2
  go_loopw [0, 5, 6, 7, 8, 9] (fun sv _ _ _ _ i wr => ∃ (k : Nat) (done : List (List UInt8)) (rest : List UInt8) (f : Nat → Int), k ≤ 4 ∧ i = .int .i64 k ∧ sv = .string (ofL rest) ∧ Hid (VrW w s0 k done rest f wr)) (fun _ _ _ _ _ i _ => 4 - (intOf i).toNat)
  case atStart => exact ⟨0, [], s0.data.toList, fun _ => 0, by omega, rfl, rfl, h0.out⟩
  case round =>
    obtain ⟨k, done, rest, f, hk, rfl, rfl, hV⟩ := hrel
    by_cases h4 : k < 4
    · have hi : (k : Int) < 4 := by omega
      have hct := cut_call (ofL rest) 44 wr hV.out.mx (by rw [ofL_size]; have := hV.out.rlen; omega)
      rw [ofL_toL] at hct
      have hcV := hV.out.cut
      rw [if_pos h4] at hcV
      replace hct := Lib.hid hct; replace hcV := Lib.hid hcV
      go_wp2_with fail
      refine hct.out.mono ?_
      rintro e w1 ⟨⟨a, r, b, rfl, hab⟩, nd, rfl⟩
      have hal : a.length ≤ s0.size ∧ r.length ≤ s0.size := by
        have := hV.out.rlen
        rcases hab with ⟨_, e1, e2, _⟩ | ⟨_, e1, _⟩
        · rw [e1, e2]; exact ⟨this, by simp⟩
        · have e := congrArg List.length e1; simp at e; omega
      by_cases h3 : k < 3
      · have d3 : decide ((k : Int) < 3) = true := decide_eq_true (by omega)
        have d3' : decide (k < 3) = true := decide_eq_true h3
        rcases hab with ⟨rfl, e1, e2, e3⟩ | ⟨rfl, e1, e3⟩
        · have hlen : (cutAll 44 s0.data.toList).length ≠ 4 := by
            rw [hcV.out, ← e1, cutAll_no e3]; simp [hV.out.len]; omega
          replace hlen := Lib.hid hlen; replace e1 := Lib.hid e1; replace e2 := Lib.hid e2; replace e3 := Lib.hid e3; replace hal := Lib.hid hal
          have hz := vecOf_no hlen.out
          have cx := blk_cell hV.out.res
          have fx := blk_free hV.out.res
          have hlow := hV.out.low
          replace hz := Lib.hid hz; replace hlow := Lib.hid hlow
          go_wp2
          refine bodyPost_ret (v := .tuple #[V4.zero.val, .int .i64 11]) (by simp [results, Tryd.results105, go_sem, cx, V4.zero]) rfl ⟨by rw [hz.out], ?_⟩
          exact (((((hlow.out.trans (below_dn _ _ _)).setCell (Nat.le_refl _) _).setCell (Nat.le_refl _) _).setCell (Nat.le_refl _) _).setCell (Nat.le_refl _) _)
        · have hcut : if k + 1 < 4 then cutAll 44 s0.data.toList = (done ++ [a]) ++ cutAll 44 r else cutAll 44 s0.data.toList = done ++ [a] := by
            rw [if_pos (by omega), hcV.out, e1, cutAll_hit e3]; simp
          have hrl : r.length ≤ s0.size := hal.2
          have hal2 := hal.1
          replace hcut := Lib.hid hcut; replace e1 := Lib.hid e1; replace e3 := Lib.hid e3; replace hal := Lib.hid hal; replace hrl := Lib.hid hrl
          clear hal
          have hal := hal2
          replace hal := Lib.hid hal
          clear hal2
          have hva := vnum_any (ofL a) (wr.drewN nd) (by rw [ofL_size]; have := hal.out; have : maxLen = 9223372036854775807 := rfl; omega)
          replace hva := Lib.hid hva
          go_wp2_with fail
          refine hva.out.mono ?_
          rintro e w2 ⟨rfl, hb2⟩
          have hb2' : Below wr.heap.size wr w2 := below_drewT hb2
          have g := blk_below hb2' hV.out.arr (blk_lt hV.out.arr)
          have g2 := blk_below hb2' hV.out.res (blk_lt hV.out.res)
          have cc := blk_cell g
          have ff := blk_free g
          have hlow2 := hV.out.low.trans (hb2'.mono hV.out.low.size)
          have hmx2 := hV.out.mx.low hb2'
          have hpos := hV.out.mx.pos
          obtain ⟨f', hf1, hf2⟩ : ∃ f' : Nat → Int, Hid (∀ j, j < k + 1 → f' j = pnum (done ++ [a]) j) ∧ Hid (∀ j, f' j = if j = k then numOf (ofL a) 10 else f j) := by
            refine ⟨fun j => if j = k then numOf (ofL a) 10 else f j, fun j hj => ?_, fun _ => rfl⟩
            show (if j = k then numOf (ofL a) 10 else f j) = pnum (done ++ [a]) j
            split
            · next h => rw [h]; unfold pnum; rw [getD_app _ _ _ _ _ hV.out.len]
            · rw [hV.out.val j (by omega)]; unfold pnum; rw [getD_old _ _ _ (by rw [hV.out.len]; omega)]
          replace hb2 := Lib.hid hb2; replace hb2' := Lib.hid hb2'; replace g := Lib.hid g; replace g2 := Lib.hid g2; replace hlow2 := Lib.hid hlow2; replace hmx2 := Lib.hid hmx2; replace hpos := Lib.hid hpos
          obtain ⟨W3, hW3⟩ : ∃ W3, W3 = w2.setCell ⟨w.heap.size + 1, k, none⟩ (.int .i64 (numOf (ofL a) 10)) := ⟨_, rfl⟩
          have hV3 : VrW w s0 (k + 1) (done ++ [a]) r f' W3 := by
            rw [hW3]
            refine ⟨hlow2.out.setCell (by simp) _, ?_, blk_set_other (by omega) _ g2.out, ?_, hf1.out, by simp [hV.out.len], hcut.out, hrl.out⟩
            · obtain ⟨m, hm⟩ := hmx2.out
              exact ⟨m, (World.cell?_of_block (a := ⟨0, 0, none⟩) (w := w2) (Below.heap_setCell _ _ _ _ (by simp))).trans hm⟩
            · rw [blk_set g.out]
              rcases lt4 h4 with rfl | rfl | rfl | rfl <;> simp [hf2.out]
          replace hV3 := Lib.hid hV3
          have hW3' := Lib.hid hW3
          clear hW3
          rcases (show k = 0 ∨ k = 1 ∨ k = 2 by omega) with rfl | rfl | rfl
          all_goals
            go_wp2
            try rw [← hW3'.out]
            go_roundw
            case rel => exact ⟨_, _, _, f', by omega, by go_num, rfl, hV3.out⟩
            case measure => simp [intOf]
      · have hk3 : k = 3 := by omega
        have d3 : decide ((k : Int) < 3) = false := decide_eq_false (by omega)
        have d3' : decide (k < 3) = false := decide_eq_false h3
        rcases hab with ⟨rfl, e1, e2, e3⟩ | ⟨rfl, e1, e3⟩
        · have hcut : if k + 1 < 4 then cutAll 44 s0.data.toList = (done ++ [a]) ++ cutAll 44 r else cutAll 44 s0.data.toList = done ++ [a] := by
            rw [if_neg (by omega), hcV.out, ← e1, cutAll_no e3]
          have hrl : r.length ≤ s0.size := hal.2
          have hal2 := hal.1
          replace hcut := Lib.hid hcut; replace e1 := Lib.hid e1; replace e2 := Lib.hid e2; replace e3 := Lib.hid e3; replace hal := Lib.hid hal; replace hrl := Lib.hid hrl; replace hk3 := Lib.hid hk3
          clear hal
          have hal := hal2
          replace hal := Lib.hid hal
          clear hal2
          have hva := vnum_any (ofL a) (wr.drewN nd) (by rw [ofL_size]; have := hal.out; have : maxLen = 9223372036854775807 := rfl; omega)
          replace hva := Lib.hid hva
          go_wp2_with fail
          refine hva.out.mono ?_
          rintro e w2 ⟨rfl, hb2⟩
          have hb2' : Below wr.heap.size wr w2 := below_drewT hb2
          have g := blk_below hb2' hV.out.arr (blk_lt hV.out.arr)
          have g2 := blk_below hb2' hV.out.res (blk_lt hV.out.res)
          have cc := blk_cell g
          have ff := blk_free g
          have hlow2 := hV.out.low.trans (hb2'.mono hV.out.low.size)
          have hmx2 := hV.out.mx.low hb2'
          have hpos := hV.out.mx.pos
          obtain ⟨f', hf1, hf2⟩ : ∃ f' : Nat → Int, Hid (∀ j, j < k + 1 → f' j = pnum (done ++ [a]) j) ∧ Hid (∀ j, f' j = if j = k then numOf (ofL a) 10 else f j) := by
            refine ⟨fun j => if j = k then numOf (ofL a) 10 else f j, fun j hj => ?_, fun _ => rfl⟩
            show (if j = k then numOf (ofL a) 10 else f j) = pnum (done ++ [a]) j
            split
            · next h => rw [h]; unfold pnum; rw [getD_app _ _ _ _ _ hV.out.len]
            · rw [hV.out.val j (by omega)]; unfold pnum; rw [getD_old _ _ _ (by rw [hV.out.len]; omega)]
          replace hb2 := Lib.hid hb2; replace hb2' := Lib.hid hb2'; replace g := Lib.hid g; replace g2 := Lib.hid g2; replace hlow2 := Lib.hid hlow2; replace hmx2 := Lib.hid hmx2; replace hpos := Lib.hid hpos
          obtain ⟨W3, hW3⟩ : ∃ W3, W3 = w2.setCell ⟨w.heap.size + 1, k, none⟩ (.int .i64 (numOf (ofL a) 10)) := ⟨_, rfl⟩
          have hV3 : VrW w s0 (k + 1) (done ++ [a]) r f' W3 := by
            rw [hW3]
            refine ⟨hlow2.out.setCell (by simp) _, ?_, blk_set_other (by omega) _ g2.out, ?_, hf1.out, by simp [hV.out.len], hcut.out, hrl.out⟩
            · obtain ⟨m, hm⟩ := hmx2.out
              exact ⟨m, (World.cell?_of_block (a := ⟨0, 0, none⟩) (w := w2) (Below.heap_setCell _ _ _ _ (by simp))).trans hm⟩
            · rw [blk_set g.out]
              rcases lt4 h4 with rfl | rfl | rfl | rfl <;> simp [hf2.out]
          replace hV3 := Lib.hid hV3
          have hW3' := Lib.hid hW3
          clear hW3
          have hk3' := hk3.out; subst hk3'
          all_goals
            go_wp2
            try rw [← hW3'.out]
            go_roundw
            case rel => exact ⟨_, _, _, f', by omega, by go_num, rfl, hV3.out⟩
            case measure => simp [intOf]
        · have hlen : (cutAll 44 s0.data.toList).length ≠ 4 := by
            rw [hcV.out, e1, cutAll_hit e3]
            have := cutAll_pos 44 r
            simp [hV.out.len]; omega
          replace hlen := Lib.hid hlen; replace e1 := Lib.hid e1; replace e3 := Lib.hid e3; replace hal := Lib.hid hal; replace hk3 := Lib.hid hk3
          have hz := vecOf_no hlen.out
          have cx := blk_cell hV.out.res
          have fx := blk_free hV.out.res
          have hlow := hV.out.low
          replace hz := Lib.hid hz; replace hlow := Lib.hid hlow
          go_wp2
          refine bodyPost_ret (v := .tuple #[V4.zero.val, .int .i64 11]) (by simp [results, Tryd.results105, go_sem, cx, V4.zero]) rfl ⟨by rw [hz.out], ?_⟩
          exact (((((hlow.out.trans (below_dn _ _ _)).setCell (Nat.le_refl _) _).setCell (Nat.le_refl _) _).setCell (Nat.le_refl _) _).setCell (Nat.le_refl _) _)
    · have hi : ¬ (k : Int) < 4 := by omega
      have k4 : k = 4 := by omega
      subst k4
      have hcV := hV.out.cut
      rw [if_neg (by omega)] at hcV
      have hvo : vecOf s0 = (vecP done).told 11 := by unfold vecOf; rw [hcV, if_pos hV.out.len]
      have hv := hV.out.val
      have e0 := hv 0 (by omega); have e1 := hv 1 (by omega); have e2 := hv 2 (by omega); have e3 := hv 3 (by omega)
      have cc := blk_cell hV.out.arr
      obtain ⟨v, hv⟩ : ∃ v : V4, v = vecP done := ⟨_, rfl⟩
      have hc : (#[.int .i64 (f 0), .int .i64 (f 1), .int .i64 (f 2), .int .i64 (f 3)] : Array Value) = v.cells := by rw [hv, e0, e1, e2, e3]; rfl
      rw [hc] at cc
      have hto := told_any v 11 wr
      clear e0 e1 e2 e3 hc
      rw [← hv] at hvo
      replace hcV := Lib.hid hcV; replace hvo := Lib.hid hvo; replace hv := Lib.hid hv; replace hto := Lib.hid hto
      go_wp2_with fail
      refine hto.out.mono ?_
      rintro e w2 ⟨rfl, hb2⟩
      have hlow2 := hV.out.low.trans (hb2.mono hV.out.low.size)
      have g2 := blk_below hb2 hV.out.res (blk_lt hV.out.res)
      clear cc
      have cx := blk_cell g2
      have fx := blk_free g2
      obtain ⟨u, hu⟩ : ∃ u : V4, u = (v.told 11).1 := ⟨_, rfl⟩
      obtain ⟨r, hr⟩ : ∃ r : Int, r = (v.told 11).2 := ⟨_, rfl⟩
      rw [← hu, ← hr]
      have hres : vecOf s0 = (u, r) := by rw [hvo.out, hu, hr]
      replace hb2 := Lib.hid hb2; replace hlow2 := Lib.hid hlow2; replace g2 := Lib.hid g2; replace hu := Lib.hid hu; replace hr := Lib.hid hr; replace hres := Lib.hid hres
      go_wp2
      refine bodyPost_ret (v := .tuple #[u.val, .int .i64 r]) (by simp [results, Tryd.results105, go_sem, cx]) rfl ⟨by rw [hres.out], ?_⟩
      exact ((((hlow2.out.setCell (Nat.le_refl _) _).setCell (Nat.le_refl _) _).setCell (Nat.le_refl _) _).setCell (Nat.le_refl _) _)
end Go.Proofs.YteoihdkaoipocaaDoor

/- corveeref03.Cut: a text's pieces; corveeref03.Right. -/
namespace Go.Proofs.YteoihdkaoipocaaDoor
open Go.RowKit

/-- a row of texts in memory -/
structure StrsAt (w : World) (so : Option Addr) (n : Nat) (xs : List ByteArray) : Prop where
  len : xs.length = n
  max : n ≤ 9223372036854775807
  cell : ∀ i x, xs[i]? = some x → ∃ b off, so = some ⟨b, off, none⟩ ∧ b < w.heap.size ∧ w.cell? ⟨b, off + i, none⟩ = some (.string x)
theorem StrsAt.below {w w' : World} {B : Nat} {so : Option Addr} {n : Nat} {xs : List ByteArray} (h : StrsAt w so n xs) (hb : Below B w w') (hB : w.heap.size ≤ B) : StrsAt w' so n xs :=
  ⟨h.len, h.max, fun i x hx => by
    obtain ⟨b, off, e, hlt, hc⟩ := h.cell i x hx
    exact ⟨b, off, e, Nat.lt_of_lt_of_le hlt hb.size, (below_cell hb (by omega)).trans hc⟩⟩
theorem StrsAt.low {w w' : World} {so : Option Addr} {n : Nat} {xs : List ByteArray} (h : StrsAt w so n xs) (hb : Below w.heap.size w w') : StrsAt w' so n xs := h.below hb (Nat.le_refl _)
theorem StrsAt.get {w : World} {so : Option Addr} {n : Nat} {xs : List ByteArray} (h : StrsAt w so n xs) {i : Nat} (hi : i < n) : ∃ x, xs[i]? = some x := ⟨_, List.getElem?_eq_getElem (by rw [h.len]; exact hi)⟩
theorem owns_cap {w : World} {base g cap n m size : Nat} {e : TypeId} {xs : List Value} (h : w.ownsRow base e size (.slice (some ⟨g, 0, none⟩) n cap) m xs) : m ≤ cap := by
  rcases h.2 with ⟨hv, _⟩ | ⟨g', cap', cur, hv, _, _, hc, _⟩
  · cases hv
  · cases hv; exact hc
theorem strs_of_blk {w : World} {b : Nat} {xs : List ByteArray} {fr : Nat × Nat} (h : w.heap[b]? = some (.cells (xs.map Value.string).toArray 9 fr)) (hm : xs.length ≤ 9223372036854775807) : StrsAt w (some ⟨b, 0, none⟩) xs.length xs :=
  ⟨rfl, hm, fun i x hx => ⟨b, 0, rfl, blk_lt h, by rw [Nat.zero_add, blk_cell h]; simp [hx]⟩⟩
theorem info9 : (Tryd.prog.info? 9).map (fun i => (i.zero, i.size, i.bytes)) = some (some (.string ByteArray.empty), 1, 16) := by kernel_rfl
theorem maxLen_ge {n : Nat} (h : n ≤ 9000000000) : n + 1 ≤ maxLen := by have : maxLen = 9223372036854775807 := rfl; omega
theorem str_new (w : World) (x : ByteArray) : ∀ j u, [Value.string x][j]? = some u → (w.alloc (.cells #[.string x] 9 (0, 0))).cell? ((⟨w.heap.size, 0, none⟩ : Addr).add j) = some u := cell_one_new w (.string x) 9
theorem str_one (x : ByteArray) : ∀ u ∈ [Value.string x], u.oneCell' = true := by simp [Value.oneCell']
structure CtW (w : World) (s : ByteArray) (x : UInt8) (k f : Nat) (n : Nat) (done : List ByteArray) (ov : Value) (wr : World) : Prop where
  low : Below w.heap.size w wr
  own : wr.ownsRow w.heap.size 9 1 ov n (done.map Value.string)
  cut : (cutAll x s.data.toList).map ofL = done ++ (cutAll x (s.data.toList.drop f)).map ofL
  no : x ∉ (s.data.toList.drop f).take (k - f)
  fk : f ≤ k
  nk : n ≤ k

def StrsPost (xs : List ByteArray) (w : World) (e : Ending) (w' : World) : Prop :=
  ∃ so n c, e = .returned (.slice so n c) ∧ n ≤ c ∧ StrsAt w' so n xs ∧ (∀ b off, so = some ⟨b, off, none⟩ → off = 0 ∧ w.heap.size ≤ b ∧ ∃ c, w'.heap[b]? = some (.cells c 9 (0, 0))) ∧ Below w.heap.size w w'
end Go.Proofs.YteoihdkaoipocaaDoor
