/- Parts Cd0, Cdu, Cdt, Rdg, Rdu, Rdt, Rst, Rrw, Rky, Rse, Rsf, Rpp, Ssm, Rne, Rex, Exr, Exw, Sxp, Rrs in one text. Plain theorems: no condition. -/
import Derived.Test.YteoihdkaoipocaaGreatDoorQa
import Derived.Lib.Zigzag
import Derived.Lib.VarintMem
import Derived.Lib.BufferWrite
import Derived.Laws.CopyOwn
import Derived.OwnWalk
import Derived.Lib.AppendStr
import Derived.Lib.VarintBits
import Derived.Deep.DeepCutAuto
import Derived.Deep.CutRange
import Derived.Laws.IdiomStrings
import Derived.Laws.BytesArg
import Derived.Test.YteoihdkaoipocaaGreatDoorQc
import Derived.Deep.RegionHeld3
import Derived.Test.YteoihdkaoipocaaGreatDoorQb
import Derived.Deep.RegionWith
import Derived.Laws.MakeOwn
/- Numbers as bytes, plain. Plain theorems: no condition. -/
namespace Go.Proofs.YteoihdkaoipocaaGreatDoor

/-- the bytes of a number -/
abbrev uintB (n : Nat) : List UInt8 := Lib.uvarint n
theorem uintB_lt {n : Nat} (h : n < 128) : uintB n = [UInt8.ofNat n] := Lib.uvarint_small h
theorem uintB_ge {n : Nat} (h : ¬ n < 128) : uintB n = UInt8.ofNat (128 + n % 128) :: uintB (n / 128) := by
  rw [Nat.add_comm 128]
  exact Lib.uvarint_big (by omega)
theorem uintB_ten {n : Nat} (h : n < 18446744073709551616) : (uintB n).length ≤ 10 := Lib.uvarint_length64 h
/-- a number off bytes: the value, the bytes behind, the error -/
def decU : Nat → Nat → List UInt8 → Nat × List UInt8 × Int
  | _, _, [] => (0, [], 10)
  | i, acc, c :: l => if (i = 9 ∧ 1 < c.toNat) ∨ (0 < i ∧ c.toNat = 0) then (0, [], 11) else
    if c.toNat < 128 then (acc + c.toNat * 128 ^ i, l, 0) else decU (i + 1) (acc + (c.toNat - 128) * 128 ^ i) l
theorem p9 : 128 ^ 9 = 9223372036854775808 := by decide
set_option maxRecDepth 100000 in
/-- what is a number's bytes is the one form of it -/
theorem decU_can : ∀ (l : List UInt8) (i acc v : Nat) (r : List UInt8), i ≤ 9 → decU i acc l = (v, r, 0) → ∃ n, v = acc + n * 128 ^ i ∧ l = uintB n ++ r ∧ n * 128 ^ i < 18446744073709551616 ∧ (0 < i → 0 < n)
  | [], i, acc, v, r, _, h => by simp [decU] at h
  | c :: l, i, acc, v, r, h9, h => by
    rw [decU] at h
    by_cases g : (i = 9 ∧ 1 < c.toNat) ∨ (0 < i ∧ c.toNat = 0)
    · rw [if_pos g] at h; simp at h
    rw [if_neg g] at h
    have hcb : c.toNat < 256 := c.toNat_lt
    by_cases q : c.toNat < 128
    · rw [if_pos q] at h
      simp only [Prod.mk.injEq] at h
      obtain ⟨rfl, rfl, _⟩ := h
      refine ⟨c.toNat, rfl, by rw [uintB_lt q]; simp, ?_, fun hi => ?_⟩
      · by_cases e : i = 9
        · subst e
          rw [p9]
          omega
        · have h1 : 128 ^ i ≤ 128 ^ 8 := Nat.pow_le_pow_right (by omega) (by omega)
          have h2 : c.toNat * 128 ^ i ≤ 127 * 128 ^ 8 := Nat.mul_le_mul (by omega) h1
          have h3 : 127 * 128 ^ 8 < 18446744073709551616 := by decide
          omega
      · omega
    · rw [if_neg q] at h
      have hi : i ≤ 8 := by omega
      obtain ⟨n, hv, hl, hlt, hpos⟩ := decU_can l (i + 1) _ v r (by omega) h
      have hn := hpos (by omega)
      have hp : 128 ^ (i + 1) = 128 ^ i * 128 := Nat.pow_succ ..
      have he : (c.toNat - 128 + n * 128) * 128 ^ i = (c.toNat - 128) * 128 ^ i + n * 128 ^ (i + 1) := by
        rw [Nat.add_mul, hp, Nat.mul_assoc n, Nat.mul_comm 128 (128 ^ i)]
      refine ⟨c.toNat - 128 + n * 128, by rw [he, hv]; omega, ?_, ?_, fun _ => by omega⟩
      · rw [uintB_ge (by omega)]
        have h1 : (c.toNat - 128 + n * 128) / 128 = n := by omega
        have h2 : 128 + (c.toNat - 128 + n * 128) % 128 = c.toNat := by omega
        rw [h1, h2, UInt8.ofNat_toNat, hl]
        rfl
      · rw [he]
        by_cases e : i = 8
        · subst e
          have hb : n ≤ 1 := by
            have : (128 : Nat) ^ (8 + 1) = 9223372036854775808 := by decide
            rw [this] at hlt
            omega
          have h1 : (c.toNat - 128) * 128 ^ 8 ≤ 127 * 128 ^ 8 := Nat.mul_le_mul (by omega) (Nat.le_refl _)
          have h2 : n * 128 ^ (8 + 1) ≤ 1 * 128 ^ 9 := Nat.mul_le_mul hb (Nat.le_refl _)
          have h3 : 127 * 128 ^ 8 + 1 * 128 ^ 9 < 18446744073709551616 := by decide
          exact Nat.lt_of_le_of_lt (Nat.add_le_add h1 h2) h3
        · have hs : (c.toNat - 128) * 128 ^ i ≤ 127 * 128 ^ i := Nat.mul_le_mul (by omega) (Nat.le_refl _)
          have hk : ∃ K, 128 ^ (i + 1) * K = 18446744073709551616 ∧ K = 2 ^ (64 - 7 * (i + 1)) := by
            refine ⟨_, ?_, rfl⟩
            rw [show (128 : Nat) = 2 ^ 7 by decide, ← Nat.pow_mul, ← Nat.pow_add, show 7 * (i + 1) + (64 - 7 * (i + 1)) = 64 by omega]
          obtain ⟨K, hK, _⟩ := hk
          rw [← hK] at hlt ⊢
          rw [Nat.mul_comm n] at hlt ⊢
          have hnK : n < K := Nat.lt_of_mul_lt_mul_left hlt
          have h5 : 128 ^ (i + 1) * (n + 1) ≤ 128 ^ (i + 1) * K := Nat.mul_le_mul (Nat.le_refl _) hnK
          have hpp : 0 < 128 ^ i := Nat.pow_pos (by omega)
          have h6 : 127 * 128 ^ i < 128 ^ (i + 1) := by rw [hp]; omega
          rw [Nat.mul_add, Nat.mul_one] at h5
          generalize 128 ^ (i + 1) * n = X at h5 ⊢
          generalize 128 ^ (i + 1) * K = Y at h5 ⊢
          generalize (c.toNat - 128) * 128 ^ i = Z at hs ⊢
          generalize 127 * 128 ^ i = U at hs h6
          generalize 128 ^ (i + 1) = V at h5 h6
          omega
/-- a number of either sign, as one of none -/
abbrev zz (n : Int) : Nat := Lib.zigzag n
def unzz (u : Nat) : Int := if u % 2 = 1 then -((u / 2 : Nat) : Int) - 1 else ((u / 2 : Nat) : Int)
theorem zz_lt {n : Int} (h1 : -9223372036854775808 ≤ n) (h2 : n ≤ 9223372036854775807) : zz n < 18446744073709551616 := by
  unfold zz Lib.zigzag
  split <;> omega
theorem unzz_bd {u : Nat} (h : u < 18446744073709551616) : -9223372036854775808 ≤ unzz u ∧ unzz u ≤ 9223372036854775807 := by
  unfold unzz
  split <;> omega
end Go.Proofs.YteoihdkaoipocaaGreatDoor

/- code.Uint, code.Int, code.Text: numbers and texts put behind bytes. Plain theorems: no condition. -/
namespace Go.Proofs.YteoihdkaoipocaaGreatDoor
open Go.RowKit Go.Maps

/-- bytes in memory -/
structure BytsAt (w : World) (so : Option Addr) (n : Nat) (l : List UInt8) : Prop where
  len : l.length = n
  max : n ≤ 9223372036854775807
  cell : ∀ i x, l[i]? = some x → ∃ b off, so = some ⟨b, off, none⟩ ∧ b < w.heap.size ∧ w.cell? ⟨b, off + i, none⟩ = some (.int .u8 x.toNat)
theorem BytsAt.low {w w' : World} {so : Option Addr} {n : Nat} {l : List UInt8} (h : BytsAt w so n l) (hb : Below w.heap.size w w') : BytsAt w' so n l :=
  ⟨h.len, h.max, fun i x hx => by
    obtain ⟨b, off, e, hlt, hc⟩ := h.cell i x hx
    exact ⟨b, off, e, Nat.lt_of_lt_of_le hlt hb.size, (below_cell hb hlt).trans hc⟩⟩
theorem byts_nil (w : World) : BytsAt w none 0 [] := ⟨rfl, by omega, fun i x h => by simp at h⟩
/-- bytes of one's own -/
structure OwnB (w : World) (B : Nat) (v : Value) (l : List UInt8) : Prop where
  row : w.ownsRow B 5 1 v l.length (Lib.byteCells l)
theorem OwnB.low {w w' : World} {B : Nat} {v : Value} {l : List UInt8} (h : OwnB w B v l) (hb : Below w.heap.size w w') : OwnB w' B v l := by
  refine ⟨h.row.1, ?_⟩
  rcases h.row.2 with ⟨hv, h0⟩ | ⟨g, cap, cur, hv, hg, hh, hr⟩
  · exact .inl ⟨hv, h0⟩
  · exact .inr ⟨g, cap, cur, hv, hg, blk_below hb hh (blk_lt hh), hr⟩
theorem OwnB.base {w : World} {B B' : Nat} {v : Value} {l : List UInt8} (h : OwnB w B v l) (hB : B' ≤ B) : OwnB w B' v l := by
  refine ⟨h.row.1, ?_⟩
  rcases h.row.2 with h | ⟨g, cap, cur, hv, hg, hh, hr⟩
  · exact .inl h
  · exact .inr ⟨g, cap, cur, hv, by omega, hh, hr⟩
theorem OwnB.form {w : World} {B : Nat} {v : Value} {l : List UInt8} (h : OwnB w B v l) : ∃ so c, v = .slice so l.length c ∧ BytsAt w so l.length l := by
  rcases h.row.2 with ⟨hv, h0⟩ | ⟨g, cap, cur, hv, hg, hh, hnc, hmx, hsz, hr⟩
  · have e : l = [] := List.eq_nil_of_length_eq_zero h0
    subst e
    exact ⟨none, 0, hv, byts_nil w⟩
  · refine ⟨some ⟨g, 0, none⟩, cap, hv, rfl, ?_, fun i x hx => ⟨g, 0, rfl, blk_lt hh, ?_⟩⟩
    · have : maxLen = 9223372036854775807 := by kernel_rfl
      omega
    · have hi := (List.getElem?_eq_some_iff.1 hx).1
      rw [Nat.zero_add, blk_cell hh]
      have h2 : (Lib.byteCells l)[i]? = some (.int .u8 x.toNat) := by
        unfold Lib.byteCells
        rw [List.getElem?_map, hx]
        rfl
      rw [← hr, List.getElem?_take_of_lt (by omega)] at h2
      simpa using h2
theorem info5b : (Tryz.prog.info? 5).map (fun i => (i.zero, i.size, i.bytes)) = some (some (.int .u8 0), 1, 1) := by kernel_rfl
theorem info5s : (Tryz.prog.info? 5).map (·.size) = some 1 := by kernel_rfl
theorem byts_cells {w : World} {so : Option Addr} {n : Nat} {l : List UInt8} (h : BytsAt w so n l) (h0 : 0 < (Lib.byteCells l).length) : ∃ ad, so = some ad ∧ ∀ j v, (Lib.byteCells l)[j]? = some v → w.cell? (ad.add j) = some v := by
  rw [Lib.byteCells_length] at h0
  obtain ⟨x, hx⟩ : ∃ x, l[0]? = some x := ⟨_, List.getElem?_eq_getElem h0⟩
  obtain ⟨b, off, rfl, _, _⟩ := h.cell 0 x hx
  refine ⟨_, rfl, fun j v hv => ?_⟩
  unfold Lib.byteCells at hv
  rw [List.getElem?_map] at hv
  obtain ⟨y, hy, rfl⟩ := Option.map_eq_some_iff.1 hv
  obtain ⟨b', off', e, _, hc⟩ := h.cell j y hy
  simp only [Option.some.injEq, Addr.mk.injEq, and_true] at e
  obtain ⟨rfl, rfl⟩ := e
  rw [show (⟨b, off, none⟩ : Addr).add j = ⟨b, off + j, none⟩ by unfold Addr.add; cases j <;> rfl]
  exact hc
structure CuC (w : World) (l : List UInt8) (v : Value) (wx : World) : Prop where
  own : OwnB wx w.heap.size v l
  low : Below w.heap.size w wx
set_option maxRecDepth 100000 in
set_option maxHeartbeats 3200000 in
theorem cuint_any (so : Option Addr) (n c : Nat) (l : List UInt8) (x : Nat) (w : World) (hx : x < 18446744073709551616) (hb : BytsAt w so n l) (hn : n ≤ 1099511627776) :
    Calls Tryz.prog 84 #[.slice so n c, .int .u64 x] w fun e w' => ∃ v, e = .returned v ∧ OwnB w' w.heap.size v (l ++ uintB x) ∧ Below w.heap.size w w' := by
  obtain ⟨i0, hi, hz0, hz1, hz2⟩ := info_parts info5b
  have hten := uintB_ten hx
  have hll := hb.len
  have mx : maxLen = 9223372036854775807 := by kernel_rfl
  have hmk : ∀ u : World, (Instr.makeSlice 40 (.int .i64 (n : Int)) (.int .i64 ((n : Int) + 10))).run Tryz.prog u =
      .ok (.slice (some ⟨u.heap.size, 0, none⟩) n (n + 10)) (u.alloc (.cells (madeCells #[.int .u8 0] (n + 10)) 5)) := fun u => by
    have h := run_make (P := Tryz.prog) u 40 5 i0 (.int .u8 0) Tryz.underlying40 hi hz0 .i64 .i64 (n : Int) ((n : Int) + 10) (by omega) (by omega) (by rw [hz2]; omega) (by omega)
    have e : ((n : Int) + 10).toNat = n + 10 := by omega
    rw [e] at h
    simpa [hz1, Value.cells] using h
  obtain ⟨cur, hcur⟩ : ∃ cur, cur = List.replicate (n + 10) (Value.int .u8 0) := ⟨_, rfl⟩
  obtain ⟨cs, hcs⟩ : ∃ cs, cs = Lib.byteCells l := ⟨_, rfl⟩
  have hcsl : cs.length = n := by rw [hcs, Lib.byteCells_length, hll]
  have hg : (w.alloc (.cells (madeCells #[.int .u8 0] (n + 10)) 5)).heap[w.heap.size]? = some (.cells cur.toArray 5 (0, 0)) := by
    rw [blk_new]
    have : (madeCells #[.int .u8 0] (n + 10)) = cur.toArray := by
      apply Array.toList_inj.1
      rw [toList_madeCells_one, hcur]
    rw [this]
  have hal : Below w.heap.size w (w.alloc (.cells (madeCells #[.int .u8 0] (n + 10)) 5)) := (Below.refl _ _).alloc (Nat.le_refl _) _
  have hpos : 0 < cs.length → ∃ ad, so = some ad ∧ ∀ j v, cs[j]? = some v → (w.alloc (.cells (madeCells #[.int .u8 0] (n + 10)) 5)).cell? (ad.add j) = some v := fun h0 => by
    rw [hcs] at h0 ⊢
    exact byts_cells (hb.low hal) h0
  have hfit : 0 + cs.length ≤ cur.length := by rw [hcsl, hcur, List.length_replicate]; omega
  have hone : ∀ v ∈ cs, v.oneCell' = true := by rw [hcs]; exact Lib.byteCells_one l
  have hmin : cs.length = Nat.min n n := by rw [hcsl]; exact (Nat.min_self n).symm
  have hstart : ∀ w', w'.heap[w.heap.size]? = some (.cells (splice cur 0 cs).toArray 5 (0, 0)) → OwnB w' w.heap.size (.slice (some ⟨w.heap.size, 0, none⟩) n (n + 10)) l := fun w' h => by
    refine ⟨?_, .inr ⟨w.heap.size, n + 10, _, ?_, Nat.le_refl _, h, ?_, ?_, ?_, ?_⟩⟩
    · rw [Lib.byteCells_length, Nat.mul_one]
    · rw [hll]
    · omega
    · omega
    · rw [List.size_toArray, length_splice _ _ _ hfit, hcur, List.length_replicate, Nat.mul_one]
    · show (splice cur 0 cs).take _ = _
      unfold splice
      rw [List.take_zero, List.nil_append, hcs, Nat.mul_one, List.take_left' (Lib.byteCells_length l)]
  replace hb := Lib.hid hb; replace hi := Lib.hid hi; replace hz0 := Lib.hid hz0; replace hz1 := Lib.hid hz1; replace hz2 := Lib.hid hz2; replace hcur := Lib.hid hcur; replace hcs := Lib.hid hcs; replace hg := Lib.hid hg; replace hal := Lib.hid hal; replace hpos := Lib.hid hpos; replace hfit := Lib.hid hfit; replace hone := Lib.hid hone; replace hmin := Lib.hid hmin; replace hstart := Lib.hid hstart; replace hll := Lib.hid hll; replace hcsl := Lib.hid hcsl
  go_enter Tryz.func84, Tryz.ntmps84
  go_wp2_with (refine wpList_copy_splice rfl (.tmp 12) (.tmp 13) 40 40 rfl 5 Tryz.underlying40 info5s _ _ _ _ _ _ rfl rfl w.heap.size 0 cur 5 hg.out cs hmin.out (fun h0 => ⟨rfl, hpos.out h0⟩) hfit.out hone.out w.heap.size w hal.out (Nat.le_refl _) ?_; intro w1 hrow hlow1; replace hlow1 := Lib.hid hlow1; simp only [Act.put, goInt, List.setIfInBounds_toArray, List.set_cons_succ, List.set_cons_zero])
  have hO1 := hstart.out w1 hrow.out
  replace hO1 := Lib.hid hO1
  go_wp2
  go_loopw [1, 5] (fun vx vb wr => ∃ (y : Nat) (pre : List UInt8), vx = .int .u64 y ∧ y ≤ x ∧ Hid (uintB x = pre ++ uintB y) ∧ Hid (CuC w (l ++ pre) vb wr)) (fun vx _ _ => (intOf vx).toNat)
  case atStart => exact ⟨x, [], rfl, Nat.le_refl _, rfl, ⟨by rw [List.append_nil]; exact hO1.out, hlow1.out⟩⟩
  case round =>
    obtain ⟨y, pre, rfl, hy, hsp, hC⟩ := hrel
    have hpl : pre.length + (uintB y).length ≤ 10 := by
      have h2 := congrArg List.length hsp.out
      rw [List.length_append] at h2
      omega
    have hyp : 1 ≤ (uintB y).length := Lib.uvarint_pos y
    have hcl : (l ++ pre).length = n + pre.length := by rw [List.length_append, hll.out]
    have hbase : w.heap.size ≤ wr.heap.size := hC.out.low.size
    by_cases h128 : 128 ≤ y
    · have hor : bits .or .u8 ((y : Int) % 256) 128 = ((y % 128 + 128 : Nat) : Int) := by
        rw [Lib.u8_or128_any _ (by omega) (by omega)]
        omega
      have hown := hC.out.own.row
      have hown1 := hown.alloc (.cells #[.int .u8 ((y % 128 + 128 : Nat) : Int)] 5)
      have hgl : ∀ k, u5.ownBlock = some k → w.heap.size ≤ k ∧ k < wr.heap.size := fun k hk => ⟨(hown.lt k hk).1, (hown.lt k hk).2⟩
      replace hsp := Lib.hid hsp; replace hC := Lib.hid hC; replace hown1 := Lib.hid hown1; replace hgl := Lib.hid hgl; replace hown := Lib.hid hown; replace hcl := Lib.hid hcl
      go_wp2_with (at_builtin; refine wpList_append_own _ rfl _ _ 40 rfl w.heap.size 5 i0 (.int .u8 0) 1 1 Tryz.underlying40 hi.out hz0.out hz1.out hz2.out rfl (by decide) _ _ _ rfl hown1.out ⟨wr.heap.size, 0, none⟩ 1 1 [Value.int .u8 ((y % 128 + 128 : Nat) : Int)] rfl rfl ?c1 ?c2 ?c3 ?c4 ?c5 ?c6)
      case c1 =>
        intro j u hj
        match j, hj with
        | 0, hj => simp at hj; subst hj; simp [Addr.add]
      case c2 => intro u hu; simp at hu; subst hu; rfl
      case c3 => rw [hcl.out]; omega
      case c4 => rw [hcl.out]; omega
      case c5 => simp; omega
      case c6 =>
        intro v' w2 hown' hgrow _
        have hlow2 : Below w.heap.size w w2 := (hC.out.low.alloc hbase _).grown hgrow (by simp; omega) (fun k hk => (hgl.out k hk).1)
        have hO2 : OwnB w2 w.heap.size v' (l ++ (pre ++ [(y % 128 + 128).toUInt8])) := by
          refine ⟨?_⟩
          have ec : ((y % 128 + 128 : Nat) : Int) = (y : Int) % 128 + 128 := by omega
          rw [← List.append_assoc, Lib.byteCells_snoc _ (by omega), List.length_append, List.length_append, List.length_singleton]
          first | exact hown' | (rw [ec]; exact hown')
        have hsp2 : uintB x = (pre ++ [(y % 128 + 128).toUInt8]) ++ uintB (y / 128) := by
          rw [hsp.out, show uintB y = _ from Lib.uvarint_big h128]
          simp
        replace hown' := Lib.hid hown'
        replace hgrow := Lib.hid hgrow; replace hlow2 := Lib.hid hlow2; replace hO2 := Lib.hid hO2; replace hsp2 := Lib.hid hsp2
        go_wp2
        go_roundw
        case rel => exact ⟨y / 128, pre ++ [(y % 128 + 128).toUInt8], by go_num, by omega, hsp2.out, ⟨hO2.out, hlow2.out⟩⟩
        case measure => simp [intOf]; omega
    · have hown := hC.out.own.row
      have hown1 := hown.alloc (.cells #[.int .u8 ((y : Nat) : Int)] 5)
      have hgl : ∀ k, u5.ownBlock = some k → w.heap.size ≤ k ∧ k < wr.heap.size := fun k hk => ⟨(hown.lt k hk).1, (hown.lt k hk).2⟩
      have hsm : uintB y = [y.toUInt8] := Lib.uvarint_small (by omega)
      replace hsp := Lib.hid hsp; replace hC := Lib.hid hC; replace hown1 := Lib.hid hown1; replace hgl := Lib.hid hgl; replace hown := Lib.hid hown; replace hsm := Lib.hid hsm; replace hcl := Lib.hid hcl
      go_wp2_with (at_builtin; refine wpList_append_own _ rfl _ _ 40 rfl w.heap.size 5 i0 (.int .u8 0) 1 1 Tryz.underlying40 hi.out hz0.out hz1.out hz2.out rfl (by decide) _ _ _ rfl hown1.out ⟨wr.heap.size, 0, none⟩ 1 1 [Value.int .u8 ((y : Nat) : Int)] rfl rfl ?c1 ?c2 ?c3 ?c4 ?c5 ?c6)
      case c1 =>
        intro j u hj
        match j, hj with
        | 0, hj => simp at hj; subst hj; simp [Addr.add]
      case c2 => intro u hu; simp at hu; subst hu; rfl
      case c3 => rw [hcl.out]; omega
      case c4 => rw [hcl.out]; omega
      case c5 => simp; omega
      case c6 =>
        intro v' w2 hown' hgrow _
        have hlow2 : Below w.heap.size w w2 := (hC.out.low.alloc hbase _).grown hgrow (by simp; omega) (fun k hk => (hgl.out k hk).1)
        have hO2 : OwnB w2 w.heap.size v' (l ++ uintB x) := by
          refine ⟨?_⟩
          rw [hsp.out, hsm.out, ← List.append_assoc, Lib.byteCells_snoc _ (by omega), List.length_append, List.length_append, List.length_singleton]
          exact hown'
        replace hown' := Lib.hid hown'
        replace hgrow := Lib.hid hgrow; replace hlow2 := Lib.hid hlow2; replace hO2 := Lib.hid hO2
        go_wp2
        go_ret
        exact ⟨v', rfl, hO2.out, hlow2.out⟩
theorem zz_shift (n : Int) (h1 : -9223372036854775808 ≤ n) (h2 : n ≤ 9223372036854775807) : bits .xor .u64 (IntKind.u64.wrap (wrap64 (n * 2))) (IntKind.u64.wrap (n / 9223372036854775808)) = ((zz n : Nat) : Int) := by
  have e1 : IntKind.u64.wrap (wrap64 (n * 2)) = (((2 * n) % 18446744073709551616).toNat : Nat) := by
    rw [← IntWalk.i64_left, IntKind.wrap_u64, IntKind.wrap_i64]
    omega
  by_cases h : 0 ≤ n
  · have e2 : IntKind.u64.wrap (n / 9223372036854775808) = ((0 : Nat) : Int) := by
      rw [IntKind.wrap_u64]
      omega
    rw [e1, e2, bits_xor_u64_nat _ _ (by omega) (by decide), Nat.xor_zero]
    unfold zz Lib.zigzag
    rw [if_pos h]
    omega
  · have e2 : IntKind.u64.wrap (n / 9223372036854775808) = ((2 ^ 64 - 1 : Nat) : Int) := by
      rw [IntKind.wrap_u64]
      omega
    rw [e1, e2, bits_xor_u64_nat _ _ (by omega) (by decide), Nat.xor_comm, Lib.xor_ones64 _ (by omega)]
    unfold zz Lib.zigzag
    rw [if_neg h]
    omega
set_option maxRecDepth 100000 in
set_option maxHeartbeats 1600000 in
theorem cint_any (so : Option Addr) (n c : Nat) (l : List UInt8) (x : Int) (w : World) (h1 : -9223372036854775808 ≤ x) (h2 : x ≤ 9223372036854775807) (hb : BytsAt w so n l) (hn : n ≤ 1099511627776) :
    Calls Tryz.prog 46 #[.slice so n c, .int .i64 x] w fun e w' => ∃ v, e = .returned v ∧ OwnB w' w.heap.size v (l ++ uintB (zz x)) ∧ Below w.heap.size w w' := by
  have hk := cuint_any so n c l (zz x) w (zz_lt h1 h2) hb hn
  have hz := zz_shift x h1 h2
  replace hk := Lib.hid hk; replace hb := Lib.hid hb
  go_enter Tryz.func46, Tryz.ntmps46
  go_wp2_with fail
  refine hk.out.mono ?_
  rintro e w1 ⟨v, rfl, hO, hlow⟩
  replace hO := Lib.hid hO; replace hlow := Lib.hid hlow
  go_wp2
  go_ret
  exact ⟨v, rfl, hO.out, hlow.out⟩
end Go.Proofs.YteoihdkaoipocaaGreatDoor

/- code.Text; slices.Clone of bytes. Plain theorems: no condition. -/
namespace Go.Proofs.YteoihdkaoipocaaGreatDoor
open Go.RowKit Go.Maps

theorem byteCells_app2 (a b : List UInt8) : Lib.byteCells (a ++ b) = Lib.byteCells a ++ Lib.byteCells b := by simp [Lib.byteCells]
set_option maxRecDepth 100000 in
set_option maxHeartbeats 1600000 in
theorem ctext_any (so : Option Addr) (n c : Nat) (l : List UInt8) (s : ByteArray) (w : World) (hs : s.size ≤ 1099511627776) (hb : BytsAt w so n l) (hn : n ≤ 1099511627776) :
    Calls Tryz.prog 47 #[.slice so n c, .string s] w fun e w' => ∃ v, e = .returned v ∧ OwnB w' w.heap.size v (l ++ uintB s.size ++ s.data.toList) ∧ Below w.heap.size w w' := by
  obtain ⟨i0, hi, hz0, hz1, hz2⟩ := info_parts info5b
  have hx : s.size < 18446744073709551616 := by omega
  have hk := cuint_any so n c l s.size w hx hb hn
  have hll := hb.len
  have hten := uintB_ten hx
  have mx : maxLen = 9223372036854775807 := by kernel_rfl
  have htl : s.data.toList.length = s.size := toL_len s
  replace hk := Lib.hid hk; replace hb := Lib.hid hb; replace hi := Lib.hid hi; replace hz0 := Lib.hid hz0; replace hz1 := Lib.hid hz1; replace hz2 := Lib.hid hz2; replace hll := Lib.hid hll
  go_enter Tryz.func47, Tryz.ntmps47
  go_wp2_with fail
  refine hk.out.mono ?_
  rintro e w1 ⟨v, rfl, hO, hlow⟩
  have hown := hO.row
  have hbase := hlow.size
  have hln : (l ++ uintB s.size).length = n + (uintB s.size).length := by rw [List.length_append, hll.out]
  have hgl : ∀ k, v.ownBlock = some k → w.heap.size ≤ k ∧ k < w1.heap.size := fun k hk => ⟨(hown.lt k hk).1, (hown.lt k hk).2⟩
  replace hO := Lib.hid hO; replace hlow := Lib.hid hlow; replace hown := Lib.hid hown; replace hgl := Lib.hid hgl; replace hln := Lib.hid hln; replace hten := Lib.hid hten
  go_wp2_with (at_builtin; refine Lib.wpList_append_own_string _ rfl _ _ 40 9 rfl w.heap.size 5 i0 Tryz.underlying40 Tryz.underlying9 hi.out hz0.out hz1.out hz2.out _ _ _ rfl hown.out s rfl ?c3 ?c4 hbase ?c6)
  case c3 => rw [hln.out]; have := hten.out; omega
  case c4 => rw [hln.out]; have := hten.out; omega
  case c6 =>
    intro v' w2 hown' hgrow _
    have hlow2 : Below w.heap.size w w2 := hlow.out.grown hgrow hbase (fun k hk => (hgl.out k hk).1)
    have hO2 : OwnB w2 w.heap.size v' (l ++ uintB s.size ++ s.data.toList) := by
      refine ⟨?_⟩
      rw [List.length_append, htl, byteCells_app2 (l ++ uintB s.size), List.length_append]
      exact hown'
    replace hown' := Lib.hid hown'
    replace hgrow := Lib.hid hgrow; replace hlow2 := Lib.hid hlow2; replace hO2 := Lib.hid hO2
    go_wp2
    go_ret
    exact ⟨v', rfl, hO2.out, hlow2.out⟩
set_option maxRecDepth 100000 in
set_option maxHeartbeats 1600000 in
theorem cloneB_any (so : Option Addr) (n c : Nat) (l : List UInt8) (w : World) (hb : BytsAt w so n l) (hso : so = none → n = 0 ∧ c = 0) (hn : n ≤ 1099511627776) :
    Calls Tryz.prog 45 #[.slice so n c] w fun e w' => ∃ v, e = .returned v ∧ OwnB w' w.heap.size v l ∧ Below w.heap.size w w' := by
  obtain ⟨i0, hi, hz0, hz1, hz2⟩ := info_parts info5b
  have hll := hb.len
  have mx : maxLen = 9223372036854775807 := by kernel_rfl
  have q67 : ∀ (w : World) (a : Option Addr) (n c n' c' : Nat), (binOp .eql 40 (.slice a n c) (.slice none n' c')).run Tryz.prog w = .ok (.bool a.isNone) w := fun w a n c n' c' => Lib.run_eql_slice_nil w _ _ a n c n' c' Tryz.underlying40
  cases so with
  | none =>
    obtain ⟨rfl, rfl⟩ := hso rfl
    have hl : l = [] := List.eq_nil_of_length_eq_zero hll
    subst hl
    replace hb := Lib.hid hb; replace hi := Lib.hid hi; replace hz0 := Lib.hid hz0; replace hz1 := Lib.hid hz1; replace hz2 := Lib.hid hz2; replace hll := Lib.hid hll
    go_enter Tryz.func45, Tryz.ntmps45
    go_wp2
    go_ret
    exact ⟨_, rfl, ⟨rfl, .inl ⟨rfl, rfl⟩⟩, Below.refl _ _⟩
  | some ad =>
    have hal : Below w.heap.size w (w.alloc (.cells #[] 5)) := (Below.refl _ _).alloc (Nat.le_refl _) _
    have hown : (w.alloc (.cells #[] 5)).ownsRow w.heap.size 5 1 (.slice (some ⟨w.heap.size, 0, none⟩) 0 0) 0 [] := ⟨rfl, .inr ⟨w.heap.size, 0, #[], rfl, Nat.le_refl _, blk_new _ _, Nat.le_refl _, by omega, rfl, rfl⟩⟩
    have hcl : ∀ j u, (Lib.byteCells l)[j]? = some u → (w.alloc (.cells #[] 5)).cell? (ad.add j) = some u := fun j u hu => by
      by_cases h0 : 0 < (Lib.byteCells l).length
      · obtain ⟨a2, e, h2⟩ := byts_cells (hb.low hal) h0
        rw [Option.some.inj e]
        exact h2 j u hu
      · rw [List.getElem?_eq_none (by omega)] at hu
        cases hu
    have hln : (Lib.byteCells l).length = n * 1 := by rw [Lib.byteCells_length, hll, Nat.mul_one]
    have hone := Lib.byteCells_one l
    replace hb := Lib.hid hb; replace hi := Lib.hid hi; replace hz0 := Lib.hid hz0; replace hz1 := Lib.hid hz1; replace hz2 := Lib.hid hz2; replace hll := Lib.hid hll; replace hal := Lib.hid hal; replace hown := Lib.hid hown; replace hcl := Lib.hid hcl; replace hln := Lib.hid hln; replace hone := Lib.hid hone
    go_enter Tryz.func45, Tryz.ntmps45
    go_wp2_with (at_builtin; refine wpList_append_own _ rfl _ _ 40 rfl w.heap.size 5 i0 (.int .u8 0) 1 1 Tryz.underlying40 hi.out hz0.out hz1.out hz2.out rfl (by decide) _ _ _ rfl hown.out ad n c (Lib.byteCells l) rfl hln.out hcl.out hone.out ?c3 ?c4 ?c5 ?c6)
    case c3 => omega
    case c4 => omega
    case c5 => simp
    case c6 =>
      intro v' w2 hown' hgrow _
      have hlow2 : Below w.heap.size w w2 := hal.out.grown hgrow (by simp) (fun k hk => (hown.out.lt k hk).1)
      have hO2 : OwnB w2 w.heap.size v' l := by
        refine ⟨?_⟩
        rw [hll.out]
        exact hown'
      replace hown' := Lib.hid hown'
      replace hgrow := Lib.hid hgrow; replace hlow2 := Lib.hid hlow2; replace hO2 := Lib.hid hO2
      go_wp2
      go_ret
      exact ⟨v', rfl, hO2.out, hlow2.out⟩
end Go.Proofs.YteoihdkaoipocaaGreatDoor

/- code.Reader: its errors, its numbers. Plain theorems: no condition. -/
namespace Go.Proofs.YteoihdkaoipocaaGreatDoor
open Go.RowKit Go.Maps

/-- nothing old but one block turns -/
structure Kept (rb : Nat) (w w' : World) : Prop where
  os : w'.os = w.os
  tape : w'.tape = w.tape
  output : w'.output = w.output
  size : w.heap.size ≤ w'.heap.size
  block : ∀ k, k < w.heap.size → k ≠ rb → w'.heap[k]? = w.heap[k]?
theorem Kept.refl (rb : Nat) (w : World) : Kept rb w w := ⟨rfl, rfl, rfl, Nat.le_refl _, fun _ _ _ => rfl⟩
theorem Kept.trans {rb : Nat} {a b c : World} (h : Kept rb a b) (k : Kept rb b c) : Kept rb a c :=
  ⟨k.os.trans h.os, k.tape.trans h.tape, k.output.trans h.output, Nat.le_trans h.size k.size, fun i hi hn => (k.block i (Nat.lt_of_lt_of_le hi h.size) hn).trans (h.block i hi hn)⟩
theorem Kept.set (rb o : Nat) (w : World) (v : Value) : Kept rb w (w.setCell ⟨rb, o, none⟩ v) :=
  ⟨rfl, rfl, rfl, by simp [World.setCell], fun k _ hn => Below.heap_setCell _ _ _ _ hn⟩
theorem Kept.of_below {rb : Nat} {w w' : World} (h : Below w.heap.size w w') : Kept rb w w' := ⟨h.os, h.tape, h.output, h.size, fun k hk _ => h.block k hk⟩
theorem Kept.below {rb B : Nat} {w w' : World} (h : Kept rb w w') (hB : B ≤ rb) (hr : rb < w.heap.size) : Below B w w' :=
  ⟨h.os, h.tape, h.output, h.size, fun k hk => h.block k (by omega) (by omega)⟩
theorem Kept.blk {rb k : Nat} {w w' : World} {o : Obj} (h : Kept rb w w') (hk : w.heap[k]? = some o) (hn : k ≠ rb) : w'.heap[k]? = some o := (h.block k (blk_lt hk) hn).trans hk
/-- a reader in memory: the bytes left, the error -/
structure Rdr (w : World) (rb B : Nat) (l : List UInt8) (e : Int) : Prop where
  ex : ∃ so n c, w.heap[rb]? = some (.cells #[.slice so n c, .int .i64 e] 100 (0, 0)) ∧ BytsAt w so n l ∧ n ≤ c ∧ (so = none → n = 0 ∧ c = 0) ∧ (l ≠ [] → ∀ ad, so = some ad → ad.block < B)
theorem Rdr.low {w w' : World} {rb B : Nat} {l : List UInt8} {e : Int} (h : Rdr w rb B l e) (hb : Below w.heap.size w w') : Rdr w' rb B l e := by
  obtain ⟨so, n, c, h1, h2, h3⟩ := h.ex
  exact ⟨so, n, c, blk_below hb h1 (blk_lt h1), h2.low hb, h3⟩
theorem Rdr.lt {w : World} {rb B : Nat} {l : List UInt8} {e : Int} (h : Rdr w rb B l e) : rb < w.heap.size := by
  obtain ⟨so, n, c, h1, _⟩ := h.ex
  exact blk_lt h1
theorem byts_ne {w : World} {rb : Nat} {so so' : Option Addr} {n n' c : Nat} {l : List UInt8} {e : Int} {T : TypeId} {fr : Nat × Nat} (hr : w.heap[rb]? = some (.cells #[.slice so' n' c, .int .i64 e] T fr)) (h : BytsAt w so n l) : ∀ i x, l[i]? = some x → ∃ b off, so = some ⟨b, off, none⟩ ∧ b < w.heap.size ∧ b ≠ rb ∧ w.cell? ⟨b, off + i, none⟩ = some (.int .u8 x.toNat) := by
  intro i x hx
  obtain ⟨b, off, e1, hlt, hc⟩ := h.cell i x hx
  refine ⟨b, off, e1, hlt, fun hb => ?_, hc⟩
  subst hb
  rw [blk_cell hr] at hc
  rcases Nat.lt_or_ge (off + i) 2 with hj | hj
  · have : off + i = 0 ∨ off + i = 1 := by omega
    rcases this with e | e <;> rw [e] at hc <;> simp at hc
  · rw [Array.getElem?_eq_none (by simpa using hj)] at hc
    cases hc
theorem byts_kept {w w' : World} {rb : Nat} {so so' : Option Addr} {n n' c : Nat} {l : List UInt8} {e : Int} {T : TypeId} {fr : Nat × Nat} (hr : w.heap[rb]? = some (.cells #[.slice so' n' c, .int .i64 e] T fr)) (h : BytsAt w so n l) (hk : Kept rb w w') : BytsAt w' so n l :=
  ⟨h.len, h.max, fun i x hx => by
    obtain ⟨b, off, e1, hlt, hne, hc⟩ := byts_ne hr h i x hx
    refine ⟨b, off, e1, Nat.lt_of_lt_of_le hlt hk.size, ?_⟩
    rw [← hc]
    simp only [World.cell?, hk.block b hlt hne]⟩
theorem byts_drop {w : World} {b off n : Nat} {l : List UInt8} (h : BytsAt w (some ⟨b, off, none⟩) n l) (k : Nat) (hk : k ≤ n) : BytsAt w (some ⟨b, off + k, none⟩) (n - k) (l.drop k) :=
  ⟨by rw [List.length_drop, h.len], by have := h.max; omega, fun i x hx => by
    rw [List.getElem?_drop] at hx
    obtain ⟨b', off', e, hlt, hc⟩ := h.cell (k + i) x hx
    simp only [Option.some.injEq, Addr.mk.injEq, and_true] at e
    obtain ⟨rfl, rfl⟩ := e
    exact ⟨b, off + k, rfl, hlt, by rw [Nat.add_assoc]; exact hc⟩⟩
theorem byts_lt {w : World} {so : Option Addr} {n : Nat} {l : List UInt8} (h : BytsAt w so n l) : l ≠ [] → ∀ ad, so = some ad → ad.block < w.heap.size := by
  intro hl ad e
  cases l with
  | nil => exact absurd rfl hl
  | cons x l =>
    obtain ⟨b, off, e2, hlt, _⟩ := h.cell 0 x rfl
    rw [e] at e2
    rw [Option.some.inj e2]
    exact hlt
theorem rdr_new (w : World) {so : Option Addr} {n c : Nat} {l : List UInt8} (h : BytsAt w so n l) (hc : n ≤ c) (hso : so = none → n = 0 ∧ c = 0) : Rdr (w.alloc (.cells #[.slice so n c, .int .i64 0] 100 (0, 0))) w.heap.size w.heap.size l 0 :=
  ⟨so, n, c, blk_new _ _, h.low ((Below.refl _ _).alloc (Nat.le_refl _) _), hc, hso, byts_lt h⟩
theorem Rdr.at {w w' : World} {rb B B' : Nat} {l : List UInt8} {e : Int} (h : Rdr w rb B l e) (hb : Below B' w w') (hr : rb < B') (hB : B ≤ B') : Rdr w' rb B l e := by
  obtain ⟨so, n, c, h1, h2, h3, h4, h5⟩ := h.ex
  refine ⟨so, n, c, blk_below hb h1 hr, ⟨h2.len, h2.max, fun i x hx => ?_⟩, h3, h4, h5⟩
  obtain ⟨b, off, e1, hlt, hc⟩ := h2.cell i x hx
  have hb5 := h5 (fun c => by rw [c] at hx; simp at hx) _ e1
  exact ⟨b, off, e1, Nat.lt_of_lt_of_le hlt hb.size, (below_cell hb (Nat.lt_of_lt_of_le hb5 hB)).trans hc⟩
set_option maxRecDepth 100000 in
theorem cread_any {w : World} {so : Option Addr} {n c : Nat} {l : List UInt8} (h : BytsAt w so n l) (hc : n ≤ c) (hso : so = none → n = 0 ∧ c = 0) :
    Calls Tryz.prog 19 #[.slice so n c] w fun e w' => e = .returned (.pointer (some ⟨w.heap.size, 0, none⟩)) ∧ Rdr w' w.heap.size w.heap.size l 0 ∧ Below w.heap.size w w' := by
  have hR := rdr_new w h hc hso
  replace hR := Lib.hid hR; replace h := Lib.hid h; replace hso := Lib.hid hso
  go_enter Tryz.func19, Tryz.ntmps19
  go_wp2
  go_ret
  exact ⟨rfl, hR.out, (Below.refl _ _).alloc (Nat.le_refl _) _⟩
set_option maxRecDepth 100000 in
theorem rerr_any {w : World} {rb B : Nat} {l : List UInt8} {e : Int} (h : Rdr w rb B l e) : Calls Tryz.prog 23 #[.pointer (some ⟨rb, 0, none⟩)] w fun en w' => en = .returned (.int .i64 e) ∧ w' = w := by
  obtain ⟨so, n, c, h1, h2, h3, h4, h5⟩ := h.ex
  have y1 : w.cell? ⟨rb, 1, none⟩ = some (.int .i64 e) := blk_cell h1 1
  replace h := Lib.hid h; replace h1 := Lib.hid h1; replace h2 := Lib.hid h2; replace h4 := Lib.hid h4; replace h5 := Lib.hid h5
  go_enter Tryz.func23, Tryz.ntmps23
  go_wp2
  go_ret
  exact ⟨rfl, rfl⟩
set_option maxRecDepth 100000 in
theorem rleft_any {w : World} {rb B : Nat} {l : List UInt8} {e : Int} (h : Rdr w rb B l e) : Calls Tryz.prog 24 #[.pointer (some ⟨rb, 0, none⟩)] w fun en w' => en = .returned (.int .i64 l.length) ∧ w' = w := by
  obtain ⟨so, n, c, h1, h2, h3, h4, h5⟩ := h.ex
  have y0 : w.cell? ⟨rb, 0, none⟩ = some (.slice so n c) := blk_cell h1 0
  have hl := h2.len
  replace h := Lib.hid h; replace h1 := Lib.hid h1; replace h2 := Lib.hid h2; replace h4 := Lib.hid h4; replace h5 := Lib.hid h5; replace hl := Lib.hid hl
  go_enter Tryz.func24, Tryz.ntmps24
  go_wp2
  go_ret
  exact ⟨by rw [hl.out]; rfl, rfl⟩
/-- what a failure leaves -/
def failL (l : List UInt8) (e x : Int) : List UInt8 := if e = 0 ∧ x ≠ 0 then [] else l
def failE (e x : Int) : Int := if e = 0 ∧ x ≠ 0 then x else e
set_option maxRecDepth 100000 in
theorem rfail_any {w : World} {rb B : Nat} {l : List UInt8} {e : Int} (h : Rdr w rb B l e) (x : Int) : Calls Tryz.prog 52 #[.pointer (some ⟨rb, 0, none⟩), .int .i64 x] w fun en w' => en = .returned (.tuple #[]) ∧ Rdr w' rb B (failL l e x) (failE e x) ∧ Kept rb w w' := by
  obtain ⟨so, n, c, h1, h2, h3, h4, h5⟩ := h.ex
  have y1 : w.cell? ⟨rb, 1, none⟩ = some (.int .i64 e) := blk_cell h1 1
  by_cases q : e = 0
  · by_cases q2 : x = 0
    · have d1 : (e == (0 : Int)) = true := by rw [q]; rfl
      have d2 : (x != (0 : Int)) = false := by rw [q2]; rfl
      have e1 : failL l e x = l := if_neg (fun c => c.2 q2)
      have e2 : failE e x = e := if_neg (fun c => c.2 q2)
      replace h := Lib.hid h; replace h1 := Lib.hid h1; replace h2 := Lib.hid h2; replace h4 := Lib.hid h4; replace h5 := Lib.hid h5; replace q := Lib.hid q; replace q2 := Lib.hid q2; replace e1 := Lib.hid e1; replace e2 := Lib.hid e2
      go_enter Tryz.func52, Tryz.ntmps52
      go_wp2
      go_end0
      exact ⟨rfl, by rw [e1.out, e2.out]; exact h.out, Kept.refl _ _⟩
    · have d1 : (e == (0 : Int)) = true := by rw [q]; rfl
      have d2 : (x != (0 : Int)) = true := by rw [bne_iff_ne]; exact q2
      have e1 : failL l e x = [] := if_pos ⟨q, q2⟩
      have e2 : failE e x = x := if_pos ⟨q, q2⟩
      have f1 := blk_free h1 1
      have f0 := blk_free (blk_set h1 1 (.int .i64 x)) 0
      have y0 : (w.setCell ⟨rb, 1, none⟩ (.int .i64 x)).cell? ⟨rb, 0, none⟩ = some (.slice so n c) := by rw [blk_cell (blk_set h1 1 _)]; simp
      have h6 := blk_set (blk_set h1 1 (.int .i64 x)) 0 (.slice none 0 0)
      have hk : Kept rb w ((w.setCell ⟨rb, 1, none⟩ (.int .i64 x)).setCell ⟨rb, 0, none⟩ (.slice none 0 0)) := (Kept.set rb 1 w _).trans (Kept.set rb 0 _ _)
      have hR : Rdr ((w.setCell ⟨rb, 1, none⟩ (.int .i64 x)).setCell ⟨rb, 0, none⟩ (.slice none 0 0)) rb B [] x := ⟨none, 0, 0, by simpa using h6, byts_nil _, Nat.le_refl _, fun _ => ⟨rfl, rfl⟩, fun h => absurd rfl h⟩
      replace h := Lib.hid h; replace h1 := Lib.hid h1; replace h2 := Lib.hid h2; replace h4 := Lib.hid h4; replace h5 := Lib.hid h5; replace q := Lib.hid q; replace q2 := Lib.hid q2; replace e1 := Lib.hid e1; replace e2 := Lib.hid e2; replace h6 := Lib.hid h6; replace hk := Lib.hid hk; replace hR := Lib.hid hR
      go_enter Tryz.func52, Tryz.ntmps52
      go_wp2
      go_end0
      exact ⟨rfl, by rw [e1.out, e2.out]; exact hR.out, hk.out⟩
  · have d1 : (e == (0 : Int)) = false := by rw [beq_eq_false_iff_ne]; exact q
    have e1 : failL l e x = l := if_neg (fun c => q c.1)
    have e2 : failE e x = e := if_neg (fun c => q c.1)
    replace h := Lib.hid h; replace h1 := Lib.hid h1; replace h2 := Lib.hid h2; replace h4 := Lib.hid h4; replace h5 := Lib.hid h5; replace q := Lib.hid q; replace e1 := Lib.hid e1; replace e2 := Lib.hid e2
    go_enter Tryz.func52, Tryz.ntmps52
    go_wp2
    go_end0
    exact ⟨rfl, by rw [e1.out, e2.out]; exact h.out, Kept.refl _ _⟩
end Go.Proofs.YteoihdkaoipocaaGreatDoor

/- code.Reader: Uint, Int, count, Text, End. Plain theorems: no condition. -/
namespace Go.Proofs.YteoihdkaoipocaaGreatDoor
open Go.RowKit Go.Maps

/-- a number off a reader: the value, what is left, the error -/
def uintR (l : List UInt8) (e : Int) : Nat × List UInt8 × Int := if e = 0 then decU 0 0 l else (0, l, e)
theorem or_step {acc m k : Nat} (hk : k ≤ 9) (hacc : acc < 128 ^ k) (hm : m < 256) (h9 : k = 9 → m ≤ 1) :
    bits .or .u64 (acc : Int) (IntKind.u64.wrap (IntKind.u64.wrap (bits .and .u8 (m : Int) 127) * 2 ^ (7 * k))) = ((acc + (m % 128) * 128 ^ k : Nat) : Int) := by
  have hp : (128 : Nat) ^ k = 2 ^ (7 * k) := by rw [show (128 : Nat) = 2 ^ 7 by decide, ← Nat.pow_mul]
  have hb : (m % 128) * 128 ^ k < 18446744073709551616 := by
    by_cases c : k = 9
    · have h1 := h9 c
      subst c
      rw [p9]
      omega
    · have h1 : 128 ^ k ≤ 128 ^ 8 := Nat.pow_le_pow_right (by omega) (by omega)
      have h2 : (m % 128) * 128 ^ k ≤ 127 * 128 ^ 8 := Nat.mul_le_mul (by omega) h1
      exact Nat.lt_of_le_of_lt h2 (by decide)
  have ha : acc < 18446744073709551616 := by
    have h1 : 128 ^ k ≤ 128 ^ 9 := Nat.pow_le_pow_right (by omega) hk
    rw [p9] at h1
    omega
  rw [u8_and127 _ (by omega) (by omega)]
  have e0 : ((m : Int) % 128) = ((m % 128 : Nat) : Int) := by omega
  have e1 : IntKind.u64.wrap ((m % 128 : Nat) : Int) = ((m % 128 : Nat) : Int) := wraps_u64 _ (by omega) (by omega)
  have e2 : ((m % 128 : Nat) : Int) * 2 ^ (7 * k) = (((m % 128) * 128 ^ k : Nat) : Int) := by rw [hp]; simp
  have h64 : (2 : Int) ^ 64 = 18446744073709551616 := by decide
  have l1 : (((m % 128) * 128 ^ k : Nat) : Int) < 2 ^ 64 := by omega
  have l2 : (acc : Int) < 2 ^ 64 := by omega
  have l3 : (acc : Int) < 2 ^ (7 * k) := by
    rw [hp] at hacc
    exact_mod_cast hacc
  have l4 : (((m % 128) * 128 ^ k : Nat) : Int) % 2 ^ (7 * k) = 0 := by
    rw [← e2]
    exact Int.mul_emod_left _ _
  have e3 : IntKind.u64.wrap (((m % 128) * 128 ^ k : Nat) : Int) = (((m % 128) * 128 ^ k : Nat) : Int) := wraps_u64 _ (by omega) l1
  rw [e0, e1, e2, e3, bits_join_low .u64 64 (by decide) wraps_u64 (7 * k) _ _ (by omega) l3 l2 (by omega) l4 l1]
  rw [Int.natCast_add]
structure RuB (W : World) (q : Bool) (bv : Value) (wx : World) : Prop where
  b : bv = .bool q
  w : W = wx
set_option maxRecDepth 100000 in
set_option maxHeartbeats 3200000 in
theorem ruint_any {w : World} {rb B : Nat} {l : List UInt8} {e : Int} (h : Rdr w rb B l e) : Calls Tryz.prog 89 #[.pointer (some ⟨rb, 0, none⟩)] w fun en w' => en = .returned (.int .u64 (uintR l e).1) ∧ Rdr w' rb B (uintR l e).2.1 (uintR l e).2.2 ∧ Kept rb w w' := by
  obtain ⟨so, n, c, h1, h2, h3, h4, h5⟩ := h.ex
  have y1 : w.cell? ⟨rb, 1, none⟩ = some (.int .i64 e) := blk_cell h1 1
  have y0 : w.cell? ⟨rb, 0, none⟩ = some (.slice so n c) := blk_cell h1 0
  have f0 := blk_free h1 0
  by_cases q : e = 0
  rotate_left
  · have d1 : (e != (0 : Int)) = true := by rw [bne_iff_ne]; exact q
    have e1 : uintR l e = (0, l, e) := if_neg q
    replace h := Lib.hid h; replace h1 := Lib.hid h1; replace h2 := Lib.hid h2; replace h4 := Lib.hid h4; replace h5 := Lib.hid h5; replace q := Lib.hid q; replace e1 := Lib.hid e1
    go_enter Tryz.func89, Tryz.ntmps89
    go_wp2
    go_ret
    exact ⟨by rw [e1.out]; rfl, by rw [e1.out]; exact h.out, Kept.refl _ _⟩
  subst q
  have e1 : uintR l 0 = decU 0 0 l := if_pos rfl
  have hl := h2.len
  have hmx := h2.max
  replace h := Lib.hid h; replace h1 := Lib.hid h1; replace h2 := Lib.hid h2; replace h4 := Lib.hid h4; replace h5 := Lib.hid h5; replace e1 := Lib.hid e1; replace hl := Lib.hid hl
  go_enter Tryz.func89, Tryz.ntmps89
  go_wp2
  go_loopw [3, 4, 5] (fun nv iv _ wr => ∃ k acc : Nat, nv = .int .u64 acc ∧ iv = .int .i64 k ∧ k ≤ n ∧ k ≤ 9 ∧ Hid (acc < 128 ^ k) ∧ Hid (decU 0 0 l = decU k acc (l.drop k)) ∧ Hid (wr = w)) (fun _ iv _ _ => n - (intOf iv).toNat)
  case atStart => exact ⟨0, 0, rfl, rfl, Nat.zero_le _, by omega, (show 0 < 128 ^ 0 by decide), rfl, rfl⟩
  case round =>
    obtain ⟨k, acc, rfl, rfl, hk, hk9, hacc, hdec, hw⟩ := hrel
    have hw2 := hw.out
    subst hw2
    by_cases hc : k = n
    · have d3 : ((k : Int) == (n : Int)) = true := by rw [hc]; simp
      have hdr : l.drop k = [] := List.drop_of_length_le (by rw [hl.out, hc]; exact Nat.le_refl _)
      have e2 : uintR l 0 = (0, [], 10) := by rw [e1.out, hdec.out, hdr]; rfl
      have hF := rfail_any h.out 10
      replace hdr := Lib.hid hdr; replace e2 := Lib.hid e2; replace hF := Lib.hid hF; replace hc := Lib.hid hc
      go_wp2_with fail
      refine hF.out.mono ?_
      rintro e w1 ⟨rfl, hR, hK⟩
      replace hR := Lib.hid hR; replace hK := Lib.hid hK
      go_wp2
      go_ret
      exact ⟨by rw [e2.out]; rfl, by rw [e2.out]; exact hR.out, hK.out⟩
    · have d3 : ((k : Int) == (n : Int)) = false := by rw [beq_eq_false_iff_ne]; omega
      have hkn : (k : Int) < n := by omega
      have hk0 : (0 : Int) ≤ (k : Int) := by omega
      obtain ⟨x, hx⟩ : ∃ x, l[k]? = some x := ⟨_, List.getElem?_eq_getElem (by rw [hl.out]; omega)⟩
      obtain ⟨b, off, rfl, hbl, hcell⟩ := h2.out.cell k x hx
      obtain ⟨m, hm⟩ : ∃ m, m = x.toNat := ⟨_, rfl⟩
      have hm256 : m < 256 := by rw [hm]; exact x.toNat_lt
      rw [← hm] at hcell
      have hdrop : l.drop k = x :: l.drop (k + 1) := by
        rw [List.drop_eq_getElem_cons (by rw [hl.out]; omega)]
        rw [List.getElem?_eq_getElem (by rw [hl.out]; omega)] at hx
        rw [Option.some.inj hx]
      have hx' : l ≠ [] := fun c => by rw [c] at hx; simp at hx
      replace hx := Lib.hid hx; replace hm := Lib.hid hm; replace hdrop := Lib.hid hdrop; replace hx' := Lib.hid hx'
      go_upto_region 10 with fail
      obtain ⟨q, hq⟩ : ∃ q, q = decide ((k = 9 ∧ 1 < m) ∨ (0 < k ∧ m = 0)) := ⟨_, rfl⟩
      replace hq := Lib.hid hq
      go_cut [46] from 33 to 47 (fun bv wx => RuB wr q bv wx)
      case first =>
        by_cases k9 : k = 9
        · have a1 : ((k : Int) == (9 : Int)) = true := by rw [k9]; rfl
          by_cases m1 : 1 < m
          · have a2 : decide ((1 : Int) < (m : Int)) = true := decide_eq_true (by omega)
            have a2' : decide (1 < m) = true := decide_eq_true m1
            have hr : decide ((k = 9 ∧ 1 < m) ∨ (0 < k ∧ m = 0)) = true := decide_eq_true (.inl ⟨k9, m1⟩)
            replace k9 := Lib.hid k9; replace hr := Lib.hid hr
            go_wp2
            go_meet
            exact ⟨by rw [hq.out, hr.out], rfl⟩
          · have a2 : decide ((1 : Int) < (m : Int)) = false := decide_eq_false (by omega)
            have a2' : decide (1 < m) = false := decide_eq_false m1
            have a3 : decide ((0 : Int) < (k : Int)) = true := decide_eq_true (by omega)
            have a3' : decide (0 < k) = true := decide_eq_true (by omega)
            by_cases m0 : m = 0
            · have a4 : ((m : Int) == (0 : Int)) = true := by rw [m0]; rfl
              have hr : decide ((k = 9 ∧ 1 < m) ∨ (0 < k ∧ m = 0)) = true := decide_eq_true (by omega)
              replace m0 := Lib.hid m0; replace k9 := Lib.hid k9; replace hr := Lib.hid hr
              go_wp2
              go_meet
              exact ⟨by rw [hq.out, hr.out], rfl⟩
            · have a4 : ((m : Int) == (0 : Int)) = false := by rw [beq_eq_false_iff_ne]; omega
              have hr : decide ((k = 9 ∧ 1 < m) ∨ (0 < k ∧ m = 0)) = false := decide_eq_false (by omega)
              replace m0 := Lib.hid m0; replace k9 := Lib.hid k9; replace hr := Lib.hid hr
              go_wp2
              go_meet
              exact ⟨by rw [hq.out, hr.out], rfl⟩
        · have a1 : ((k : Int) == (9 : Int)) = false := by rw [beq_eq_false_iff_ne]; omega
          by_cases k0 : 0 < k
          · have a3 : decide ((0 : Int) < (k : Int)) = true := decide_eq_true (by omega)
            have a3' : decide (0 < k) = true := decide_eq_true k0
            by_cases m0 : m = 0
            · have a4 : ((m : Int) == (0 : Int)) = true := by rw [m0]; rfl
              have hr : decide ((k = 9 ∧ 1 < m) ∨ (0 < k ∧ m = 0)) = true := decide_eq_true (by omega)
              replace m0 := Lib.hid m0; replace k9 := Lib.hid k9; replace hr := Lib.hid hr
              go_wp2
              go_meet
              exact ⟨by rw [hq.out, hr.out], rfl⟩
            · have a4 : ((m : Int) == (0 : Int)) = false := by rw [beq_eq_false_iff_ne]; omega
              have hr : decide ((k = 9 ∧ 1 < m) ∨ (0 < k ∧ m = 0)) = false := decide_eq_false (by omega)
              replace m0 := Lib.hid m0; replace k9 := Lib.hid k9; replace hr := Lib.hid hr
              go_wp2
              go_meet
              exact ⟨by rw [hq.out, hr.out], rfl⟩
          · have a3 : decide ((0 : Int) < (k : Int)) = false := decide_eq_false (by omega)
            have a3' : decide (0 < k) = false := decide_eq_false k0
            have hr : decide ((k = 9 ∧ 1 < m) ∨ (0 < k ∧ m = 0)) = false := decide_eq_false (by omega)
            replace k9 := Lib.hid k9; replace hr := Lib.hid hr; replace k0 := Lib.hid k0
            go_wp2
            go_meet
            exact ⟨by rw [hq.out, hr.out], rfl⟩
      case rest =>
        obtain ⟨rfl, hw3⟩ := hcut
        subst hw3
        by_cases hbad : (k = 9 ∧ 1 < m) ∨ (0 < k ∧ m = 0)
        · rw [hq.out, decide_eq_true hbad]
          have e2 : uintR l 0 = (0, [], 11) := by
            rw [e1.out, hdec.out, hdrop.out, decU, if_pos (by rw [← hm.out]; exact hbad)]
          have hF := rfail_any h.out 11
          clear hq
          replace e2 := Lib.hid e2; replace hF := Lib.hid hF; replace hbad := Lib.hid hbad
          go_wp2_with fail
          refine hF.out.mono ?_
          rintro e w1 ⟨rfl, hR, hK⟩
          replace hR := Lib.hid hR; replace hK := Lib.hid hK
          go_wp2
          go_ret
          exact ⟨by rw [e2.out]; rfl, by rw [e2.out]; exact hR.out, hK.out⟩
        · rw [hq.out, decide_eq_false hbad]
          clear hq
          replace hbad := Lib.hid hbad
          have hst : ¬((k = 9 ∧ 1 < m) ∨ (0 < k ∧ m = 0)) := hbad.out
          have hor := or_step hk9 hacc.out hm256 (fun c => by omega)
          have hd2 : decU 0 0 l = if m < 128 then (acc + m * 128 ^ k, l.drop (k + 1), 0) else decU (k + 1) (acc + (m - 128) * 128 ^ k) (l.drop (k + 1)) := by
            rw [hdec.out, hdrop.out, decU, if_neg (by rw [← hm.out]; exact hst), ← hm.out]
          clear hst
          obtain ⟨A, hA⟩ : ∃ A, A = acc + (m % 128) * 128 ^ k := ⟨_, rfl⟩
          rw [← hA] at hor
          replace hd2 := Lib.hid hd2; replace hA := Lib.hid hA
          go_upto_region 14 with fail
          clear hor
          by_cases h128 : m < 128
          · have d5 : decide ((m : Int) < 128) = true := decide_eq_true (by omega)
            have d5' : decide (m < 128) = true := decide_eq_true h128
            have e2 : uintR l 0 = (A, l.drop (k + 1), 0) := by rw [e1.out, hd2.out, if_pos h128, hA.out, Nat.mod_eq_of_lt h128]
            have hwk : IntKind.i64.wrap ((k : Int) + 1) = (k : Int) + 1 := IntWalk.i64_in _ (by omega)
            by_cases hcc : c = k + 1
            · obtain rfl : n = k + 1 := by omega
              subst hcc
              have hR : Rdr (wr.setCell ⟨rb, 0, none⟩ (.slice (some ⟨b, off, none⟩) 0 0)) rb B (l.drop (k + 1)) 0 := by
                have hz : l.drop (k + 1) = [] := List.drop_of_length_le (by rw [hl.out]; exact Nat.le_refl _)
                rw [hz]
                exact ⟨some ⟨b, off, none⟩, 0, 0, by simpa using blk_set h1.out 0 (.slice (some ⟨b, off, none⟩) 0 0), ⟨rfl, by omega, fun i x hx => by simp at hx⟩, Nat.le_refl _, fun h => (by cases h), fun h => absurd rfl h⟩
              have hK := Kept.set rb 0 wr (.slice (some ⟨b, off, none⟩) 0 0)
              replace e2 := Lib.hid e2; replace hR := Lib.hid hR; replace hK := Lib.hid hK; replace h128 := Lib.hid h128
              go_wp2
              go_ret
              exact ⟨by rw [e2.out]; rfl, by rw [e2.out]; exact hR.out, hK.out⟩
            · have hR : Rdr (wr.setCell ⟨rb, 0, none⟩ (.slice (some ⟨b, off + (k + 1), none⟩) (n - (k + 1)) (c - (k + 1)))) rb B (l.drop (k + 1)) 0 := by
                have hK := Kept.set rb 0 wr (.slice (some ⟨b, off + (k + 1), none⟩) (n - (k + 1)) (c - (k + 1)))
                exact ⟨_, _, _, by simpa using blk_set h1.out 0 (.slice (some ⟨b, off + (k + 1), none⟩) (n - (k + 1)) (c - (k + 1))), byts_kept h1.out (byts_drop h2.out (k + 1) (by omega)) hK, by omega, fun h => (by cases h), fun _ ad e => by have h6 := h5.out hx'.out _ rfl; rw [← Option.some.inj e]; exact h6⟩
              have hK := Kept.set rb 0 wr (.slice (some ⟨b, off + (k + 1), none⟩) (n - (k + 1)) (c - (k + 1)))
              replace e2 := Lib.hid e2; replace hR := Lib.hid hR; replace hK := Lib.hid hK; replace h128 := Lib.hid h128
              go_wp2
              go_ret
              exact ⟨by rw [e2.out]; rfl, by rw [e2.out]; exact hR.out, hK.out⟩
          · have d5 : decide ((m : Int) < 128) = false := decide_eq_false (by omega)
            have d5' : decide (m < 128) = false := decide_eq_false h128
            have hk8 : k ≤ 8 := by
              have := hbad.out
              omega
            have hmm : m % 128 = m - 128 := by omega
            have hd3 : decU 0 0 l = decU (k + 1) A (l.drop (k + 1)) := by rw [hd2.out, if_neg h128, hA.out, hmm]
            have hA2 : A < 128 ^ (k + 1) := by
              rw [hA.out, Nat.pow_succ]
              have h1 := hacc.out
              have h2 : (m % 128) * 128 ^ k ≤ 127 * 128 ^ k := Nat.mul_le_mul (by omega) (Nat.le_refl _)
              omega
            replace hd3 := Lib.hid hd3; replace hA2 := Lib.hid hA2; replace hmm := Lib.hid hmm; replace h128 := Lib.hid h128
            go_wp2
            go_roundw
            case rel => exact ⟨k + 1, A, rfl, by go_num, by omega, by omega, hA2.out, hd3.out, by first | rfl | exact trivial⟩
            case measure => simp [intOf]; omega
end Go.Proofs.YteoihdkaoipocaaGreatDoor

/- code.Reader: Int, count, Text, End. Plain theorems: no condition. -/
namespace Go.Proofs.YteoihdkaoipocaaGreatDoor
open Go.RowKit Go.Maps

theorem decU_err : ∀ (l : List UInt8) (i acc : Nat), (decU i acc l).2.2 ≠ 0 → decU i acc l = (0, [], (decU i acc l).2.2) ∧ ((decU i acc l).2.2 = 10 ∨ (decU i acc l).2.2 = 11)
  | [], i, acc, _ => ⟨rfl, .inl rfl⟩
  | c :: l, i, acc, h => by
    rw [decU] at h ⊢
    split
    · exact ⟨rfl, .inr rfl⟩
    · next g =>
      rw [if_neg g] at h
      split
      · next q => rw [if_pos q] at h; exact absurd rfl h
      · next q =>
        rw [if_neg q] at h
        exact decU_err l (i + 1) _ h
theorem decU_lt (l : List UInt8) : (decU 0 0 l).1 < 18446744073709551616 := by
  by_cases h : (decU 0 0 l).2.2 = 0
  · obtain ⟨n, hv, _, hn, _⟩ := decU_can l 0 0 (decU 0 0 l).1 (decU 0 0 l).2.1 (by omega) (by rw [← h])
    rw [hv]
    omega
  · rw [(decU_err l 0 0 h).1]
    exact (by decide : 0 < 18446744073709551616)
theorem uintR_lt (l : List UInt8) (e : Int) : (uintR l e).1 < 18446744073709551616 := by
  unfold uintR
  split
  · exact decU_lt l
  · exact (by decide : 0 < 18446744073709551616)
/-- a number of either sign off a reader -/
def intR (l : List UInt8) (e : Int) : Int × List UInt8 × Int := (unzz (uintR l e).1, (uintR l e).2.1, (uintR l e).2.2)
theorem unzz_shift (u : Nat) (h : u < 18446744073709551616) : bits .xor .i64 (wrap64 ((u : Int) / 2)) (wrap64 (-(wrap64 (bits .and .u64 (u : Int) 1)))) = unzz u := by
  rw [Lib.u64_and1 _ (by omega) (by omega), IntWalk.wrap64_in _ (by omega), IntWalk.wrap64_in ((u : Int) % 2) (by omega), IntWalk.wrap64_in _ (by omega)]
  have hx : ∀ a b : Int, bits .xor .i64 a b = IntKind.i64.wrap ((BitVec.ofInt 64 a ^^^ BitVec.ofInt 64 b).toNat : Int) := fun _ _ => rfl
  have e2 : (u : Int) / 2 = ((u / 2 : Nat) : Int) := by omega
  unfold unzz
  by_cases q : u % 2 = 1
  · rw [if_pos q, show -((u : Int) % 2) = -1 by omega, hx, BitVec.xor_comm, ← hx, e2, Lib.i64_not _ (by omega)]
  · rw [if_neg q, show -((u : Int) % 2) = 0 by omega, hx, e2]
    have h0 : BitVec.ofInt 64 0 = 0#64 := by decide
    rw [h0, BitVec.xor_zero, BitVec.ofInt_natCast, BitVec.toNat_ofNat, Nat.mod_eq_of_lt (by omega), IntKind.wrap_i64]
    omega
set_option maxRecDepth 100000 in
set_option maxHeartbeats 1600000 in
theorem rint_any {w : World} {rb B : Nat} {l : List UInt8} {e : Int} (h : Rdr w rb B l e) : Calls Tryz.prog 51 #[.pointer (some ⟨rb, 0, none⟩)] w fun en w' => en = .returned (.int .i64 (intR l e).1) ∧ Rdr w' rb B (intR l e).2.1 (intR l e).2.2 ∧ Kept rb w w' := by
  have hk := ruint_any h
  obtain ⟨u, hu⟩ : ∃ u, u = (uintR l e).1 := ⟨_, rfl⟩
  rw [← hu] at hk
  have hz := unzz_shift u (by rw [hu]; exact uintR_lt l e)
  replace hk := Lib.hid hk; replace h := Lib.hid h; replace hu := Lib.hid hu
  go_enter Tryz.func51, Tryz.ntmps51
  go_wp2_with fail
  refine hk.out.mono ?_
  rintro en w1 ⟨rfl, hR, hK⟩
  replace hR := Lib.hid hR; replace hK := Lib.hid hK
  go_wp2
  go_ret
  exact ⟨by unfold intR; rw [← hu.out]; rfl, hR.out, hK.out⟩
/-- how many, at most so many -/
def cntR (l : List UInt8) (e : Int) (most : Nat) : Nat × List UInt8 × Int := if most < (uintR l e).1 then (0, failL (uintR l e).2.1 (uintR l e).2.2 11, failE (uintR l e).2.2 11) else uintR l e
set_option maxRecDepth 100000 in
set_option maxHeartbeats 1600000 in
theorem rcount_any {w : World} {rb B : Nat} {l : List UInt8} {e : Int} (h : Rdr w rb B l e) (most : Nat) (hm : most ≤ 1000000) : Calls Tryz.prog 113 #[.pointer (some ⟨rb, 0, none⟩), .int .i64 most] w fun en w' => en = .returned (.int .i64 (cntR l e most).1) ∧ Rdr w' rb B (cntR l e most).2.1 (cntR l e most).2.2 ∧ Kept rb w w' := by
  have hk := ruint_any h
  obtain ⟨u, hu⟩ : ∃ u, u = (uintR l e).1 := ⟨_, rfl⟩
  obtain ⟨r, hr⟩ : ∃ r, r = (uintR l e).2.1 := ⟨_, rfl⟩
  obtain ⟨x, hx⟩ : ∃ x, x = (uintR l e).2.2 := ⟨_, rfl⟩
  have hlt : u < 18446744073709551616 := by rw [hu]; exact uintR_lt l e
  have hun : uintR l e = (u, r, x) := by rw [hu, hr, hx]
  rw [← hu, ← hr, ← hx] at hk
  have hmax : max (most : Int) 0 = (most : Int) := by omega
  have hwm : IntKind.u64.wrap (most : Int) = (most : Int) := by rw [IntKind.wrap_u64]; omega
  by_cases q : most < u
  · have d : decide ((most : Int) < (u : Int)) = true := decide_eq_true (by omega)
    have d' : decide (most < u) = true := decide_eq_true q
    have e1 : cntR l e most = (0, failL r x 11, failE x 11) := by unfold cntR; rw [← hu, if_pos q, hun]
    replace hk := Lib.hid hk; replace h := Lib.hid h; replace hu := Lib.hid hu; replace hr := Lib.hid hr; replace hx := Lib.hid hx; replace hun := Lib.hid hun; replace e1 := Lib.hid e1; replace q := Lib.hid q
    go_enter Tryz.func113, Tryz.ntmps113
    go_wp2_with fail
    refine hk.out.mono ?_
    rintro en w1 ⟨rfl, hR, hK⟩
    have hF := rfail_any hR 11
    replace hR := Lib.hid hR; replace hK := Lib.hid hK; replace hF := Lib.hid hF
    go_wp2_with fail
    refine hF.out.mono ?_
    rintro en w2 ⟨rfl, hR2, hK2⟩
    have hKK := hK.out.trans hK2
    replace hR2 := Lib.hid hR2; replace hK2 := Lib.hid hK2; replace hKK := Lib.hid hKK
    go_wp2
    go_ret
    exact ⟨by rw [e1.out]; rfl, by rw [e1.out]; exact hR2.out, hKK.out⟩
  · have d : decide ((most : Int) < (u : Int)) = false := decide_eq_false (by omega)
    have d' : decide (most < u) = false := decide_eq_false q
    have e1 : cntR l e most = (u, r, x) := by unfold cntR; rw [← hu, if_neg q, hun]
    have hwu : wrap64 (u : Int) = (u : Int) := IntWalk.wrap64_in _ (by omega)
    replace hk := Lib.hid hk; replace h := Lib.hid h; replace hu := Lib.hid hu; replace hr := Lib.hid hr; replace hx := Lib.hid hx; replace hun := Lib.hid hun; replace e1 := Lib.hid e1; replace q := Lib.hid q
    go_enter Tryz.func113, Tryz.ntmps113
    go_wp2_with fail
    refine hk.out.mono ?_
    rintro en w1 ⟨rfl, hR, hK⟩
    replace hR := Lib.hid hR; replace hK := Lib.hid hK
    go_wp2
    go_ret
    exact ⟨by rw [e1.out]; show Ending.returned (.int .i64 (wrap64 (u : Int))) = _; rw [hwu], by rw [e1.out]; exact hR.out, hK.out⟩
/-- a text off a reader -/
def textR (l : List UInt8) (e : Int) (most : Nat) : List UInt8 × List UInt8 × Int :=
  if (cntR l e most).2.2 ≠ 0 then ([], (cntR l e most).2.1, (cntR l e most).2.2)
  else if (cntR l e most).2.1.length < (cntR l e most).1 then ([], [], 10)
  else ((cntR l e most).2.1.take (cntR l e most).1, (cntR l e most).2.1.drop (cntR l e most).1, 0)
theorem conv_byts {w : World} {so : Option Addr} {n : Nat} {l : List UInt8} (h : BytsAt w so n l) (c : Nat) : (convert 40 9 (.slice so n c)).run Tryz.prog w = .ok (.string (ofL l)) w := by
  cases so with
  | none =>
    have e : l = [] := by
      cases l with
      | nil => rfl
      | cons x l =>
        obtain ⟨b, off, e, _⟩ := h.cell 0 x rfl
        cases e
    subst e
    exact run_convert_bytes_nil w 40 5 Tryz.underlying40 Tryz.underlying5 n c 9 Tryz.underlying9
  | some ad =>
    have hl := h.len
    subst hl
    refine run_convert_bytes_back w 40 9 5 ad c l Tryz.underlying40 Tryz.underlying5 Tryz.underlying9 fun j hj => ?_
    obtain ⟨b, off, e, _, hc⟩ := h.cell j _ (List.getElem?_eq_getElem hj)
    rw [Option.some.inj e, show (⟨b, off, none⟩ : Addr).add j = ⟨b, off + j, none⟩ by unfold Addr.add; cases j <;> rfl]
    exact hc
theorem byts_take {w : World} {so : Option Addr} {n : Nat} {l : List UInt8} (h : BytsAt w so n l) (k : Nat) (hk : k ≤ n) : BytsAt w so k (l.take k) :=
  ⟨by rw [List.length_take, h.len]; omega, by have := h.max; omega, fun i x hx => by
    rw [List.getElem?_take] at hx
    split at hx
    · exact h.cell i x hx
    · cases hx⟩
set_option maxRecDepth 100000 in
set_option maxHeartbeats 3200000 in
theorem rtxt_any {w : World} {rb B : Nat} {l : List UInt8} {e : Int} (h : Rdr w rb B l e) (most : Nat) (hm : most ≤ 1000000) : Calls Tryz.prog 90 #[.pointer (some ⟨rb, 0, none⟩), .int .i64 most] w fun en w' => en = .returned (.string (ofL (textR l e most).1)) ∧ Rdr w' rb B (textR l e most).2.1 (textR l e most).2.2 ∧ Kept rb w w' := by
  have hk := rcount_any h most hm
  obtain ⟨u, hu⟩ : ∃ u, u = (cntR l e most).1 := ⟨_, rfl⟩
  obtain ⟨r, hr⟩ : ∃ r, r = (cntR l e most).2.1 := ⟨_, rfl⟩
  obtain ⟨x, hx⟩ : ∃ x, x = (cntR l e most).2.2 := ⟨_, rfl⟩
  have hum : u ≤ most := by
    rw [hu]
    unfold cntR
    split
    · exact Nat.zero_le _
    · omega
  have hun : cntR l e most = (u, r, x) := by rw [hu, hr, hx]
  rw [← hu, ← hr, ← hx] at hk
  by_cases q : x = 0
  rotate_left
  · have d : (x != (0 : Int)) = true := by rw [bne_iff_ne]; exact q
    have e1 : textR l e most = ([], r, x) := by unfold textR; rw [← hx, ← hr, if_pos q]
    replace hk := Lib.hid hk; replace h := Lib.hid h; replace hu := Lib.hid hu; replace hr := Lib.hid hr; replace hx := Lib.hid hx; replace hun := Lib.hid hun; replace e1 := Lib.hid e1; replace q := Lib.hid q
    go_enter Tryz.func90, Tryz.ntmps90
    go_wp2_with fail
    refine hk.out.mono ?_
    rintro en w1 ⟨rfl, hR, hK⟩
    obtain ⟨so, n, c, h1, h2, h3, h4, h5⟩ := hR.ex
    have y1 : w1.cell? ⟨rb, 1, none⟩ = some (.int .i64 x) := blk_cell h1 1
    replace hR := Lib.hid hR; replace hK := Lib.hid hK; replace h1 := Lib.hid h1; replace h2 := Lib.hid h2; replace h3 := Lib.hid h3; replace h4 := Lib.hid h4; replace h5 := Lib.hid h5
    go_wp2
    go_ret
    exact ⟨by rw [e1.out]; rfl, by rw [e1.out]; exact hR.out, hK.out⟩
  subst q
  have d : ((0 : Int) != (0 : Int)) = false := rfl
  by_cases q2 : r.length < u
  · have e1 : textR l e most = ([], [], 10) := by unfold textR; rw [← hx, ← hr, ← hu, if_neg (by simp), if_pos q2]
    replace hk := Lib.hid hk; replace h := Lib.hid h; replace hu := Lib.hid hu; replace hr := Lib.hid hr; replace hx := Lib.hid hx; replace hun := Lib.hid hun; replace e1 := Lib.hid e1
    go_enter Tryz.func90, Tryz.ntmps90
    go_wp2_with fail
    refine hk.out.mono ?_
    rintro en w1 ⟨rfl, hR, hK⟩
    obtain ⟨so, n, c, h1, h2, h3, h4, h5⟩ := hR.ex
    have y1 : w1.cell? ⟨rb, 1, none⟩ = some (.int .i64 0) := blk_cell h1 1
    have y0 : w1.cell? ⟨rb, 0, none⟩ = some (.slice so n c) := blk_cell h1 0
    have hln := h2.len
    have hnu : n < u := by omega
    have d2 : decide ((n : Int) < (u : Int)) = true := decide_eq_true (by omega)
    have d2' : decide (n < u) = true := decide_eq_true hnu
    have hF := rfail_any hR 10
    replace hR := Lib.hid hR; replace hK := Lib.hid hK; replace h1 := Lib.hid h1; replace h2 := Lib.hid h2; replace h3 := Lib.hid h3; replace h4 := Lib.hid h4; replace h5 := Lib.hid h5; replace hln := Lib.hid hln; replace q2 := Lib.hid q2; replace hF := Lib.hid hF; replace hnu := Lib.hid hnu
    go_wp2_with fail
    refine hF.out.mono ?_
    rintro en w2 ⟨rfl, hR2, hK2⟩
    have hKK := hK.out.trans hK2
    replace hR2 := Lib.hid hR2; replace hK2 := Lib.hid hK2; replace hKK := Lib.hid hKK
    go_wp2
    go_ret
    exact ⟨by rw [e1.out]; rfl, by rw [e1.out]; exact hR2.out, hKK.out⟩
  · have e1 : textR l e most = (r.take u, r.drop u, 0) := by unfold textR; rw [← hx, ← hr, ← hu, if_neg (by simp), if_neg q2]
    replace hk := Lib.hid hk; replace h := Lib.hid h; replace hu := Lib.hid hu; replace hr := Lib.hid hr; replace hx := Lib.hid hx; replace hun := Lib.hid hun; replace e1 := Lib.hid e1
    go_enter Tryz.func90, Tryz.ntmps90
    go_wp2_with fail
    refine hk.out.mono ?_
    rintro en w1 ⟨rfl, hR, hK⟩
    obtain ⟨so, n, c, h1, h2, h3, h4, h5⟩ := hR.ex
    have y1 : w1.cell? ⟨rb, 1, none⟩ = some (.int .i64 0) := blk_cell h1 1
    have y0 : w1.cell? ⟨rb, 0, none⟩ = some (.slice so n c) := blk_cell h1 0
    have f0 := blk_free h1 0
    have hln := h2.len
    have hnu : u ≤ n := by omega
    have d2 : decide ((n : Int) < (u : Int)) = false := decide_eq_false (by omega)
    have d2' : decide (n < u) = false := decide_eq_false (by omega)
    have hcv := conv_byts (byts_take h2 u hnu) c
    by_cases hn0 : n = 0
    · subst hn0
      obtain rfl : u = 0 := by omega
      have hr0 : r = [] := List.eq_nil_of_length_eq_zero (by omega)
      subst hr0
      have hR2 : Rdr (w1.setCell ⟨rb, 0, none⟩ (.slice so 0 c)) rb B [] 0 := ⟨so, 0, c, by simpa using blk_set h1 0 (.slice so 0 c), ⟨rfl, by omega, fun i x hx => by simp at hx⟩, h3, h4, fun h => absurd rfl h⟩
      have hKK := hK.trans (Kept.set rb 0 w1 (.slice so 0 c))
      cases so with
      | none =>
        obtain ⟨_, rfl⟩ := h4 rfl
        replace hR := Lib.hid hR; replace hK := Lib.hid hK; replace h1 := Lib.hid h1; replace h2 := Lib.hid h2; replace h4 := Lib.hid h4; replace h5 := Lib.hid h5; replace hln := Lib.hid hln; replace q2 := Lib.hid q2; replace hR2 := Lib.hid hR2; replace hKK := Lib.hid hKK
        go_wp2
        go_ret
        exact ⟨by rw [e1.out]; rfl, by rw [e1.out]; exact hR2.out, hKK.out⟩
      | some ad =>
        by_cases hc0 : c = 0
        · subst hc0
          replace hR := Lib.hid hR; replace hK := Lib.hid hK; replace h1 := Lib.hid h1; replace h2 := Lib.hid h2; replace h4 := Lib.hid h4; replace h5 := Lib.hid h5; replace hln := Lib.hid hln; replace q2 := Lib.hid q2; replace hR2 := Lib.hid hR2; replace hKK := Lib.hid hKK
          go_wp2
          go_ret
          exact ⟨by rw [e1.out]; rfl, by rw [e1.out]; exact hR2.out, hKK.out⟩
        · replace hR := Lib.hid hR; replace hK := Lib.hid hK; replace h1 := Lib.hid h1; replace h2 := Lib.hid h2; replace h4 := Lib.hid h4; replace h5 := Lib.hid h5; replace hln := Lib.hid hln; replace q2 := Lib.hid q2; replace hR2 := Lib.hid hR2; replace hKK := Lib.hid hKK
          go_wp2
          go_ret
          exact ⟨by rw [e1.out]; rfl, by rw [e1.out]; exact hR2.out, hKK.out⟩
    obtain ⟨x0, hx0⟩ : ∃ x0, r[0]? = some x0 := ⟨_, List.getElem?_eq_getElem (by omega)⟩
    obtain ⟨b, off, rfl, _, _⟩ := h2.cell 0 x0 hx0
    by_cases hcu : c = u
    · obtain rfl : n = u := by omega
      subst hcu
      have hz : r.drop c = [] := List.drop_of_length_le (by omega)
      have hR2 : Rdr (w1.setCell ⟨rb, 0, none⟩ (.slice (some ⟨b, off, none⟩) 0 0)) rb B (r.drop c) 0 := by
        rw [hz]
        exact ⟨_, 0, 0, by simpa using blk_set h1 0 (.slice (some ⟨b, off, none⟩) 0 0), ⟨rfl, by omega, fun i x hx => by simp at hx⟩, Nat.le_refl _, fun h => (by cases h), fun h => absurd rfl h⟩
      have hKK := hK.trans (Kept.set rb 0 w1 (.slice (some ⟨b, off, none⟩) 0 0))
      replace hR := Lib.hid hR; replace hK := Lib.hid hK; replace h1 := Lib.hid h1; replace h2 := Lib.hid h2; replace h4 := Lib.hid h4; replace h5 := Lib.hid h5; replace hln := Lib.hid hln; replace q2 := Lib.hid q2; replace hR2 := Lib.hid hR2; replace hKK := Lib.hid hKK; replace hx0 := Lib.hid hx0; replace hz := Lib.hid hz
      go_wp2
      go_ret
      exact ⟨by rw [e1.out]; rfl, by rw [e1.out]; exact hR2.out, hKK.out⟩
    · have hKs := Kept.set rb 0 w1 (.slice (some ⟨b, off + u, none⟩) (n - u) (c - u))
      have hR2 : Rdr (w1.setCell ⟨rb, 0, none⟩ (.slice (some ⟨b, off + u, none⟩) (n - u) (c - u))) rb B (r.drop u) 0 :=
        ⟨_, _, _, by simpa using blk_set h1 0 (.slice (some ⟨b, off + u, none⟩) (n - u) (c - u)), byts_kept h1 (byts_drop h2 u hnu) hKs, by omega, fun h => (by cases h), fun _ ad e => by have h6 := h5 (fun c => by rw [c] at hx0; simp at hx0) _ rfl; rw [← Option.some.inj e]; exact h6⟩
      have hKK := hK.trans hKs
      replace hR := Lib.hid hR; replace hK := Lib.hid hK; replace h1 := Lib.hid h1; replace h2 := Lib.hid h2; replace h4 := Lib.hid h4; replace h5 := Lib.hid h5; replace hln := Lib.hid hln; replace q2 := Lib.hid q2; replace hR2 := Lib.hid hR2; replace hKK := Lib.hid hKK; replace hx0 := Lib.hid hx0; replace hKs := Lib.hid hKs
      go_wp2
      go_ret
      exact ⟨by rw [e1.out]; rfl, by rw [e1.out]; exact hR2.out, hKK.out⟩
/-- the error at the end: too many bytes are one -/
def endE (l : List UInt8) (e : Int) : Int := if 0 < l.length then failE e 11 else e
set_option maxRecDepth 100000 in
set_option maxHeartbeats 1600000 in
theorem rend_any {w : World} {rb B : Nat} {l : List UInt8} {e : Int} (h : Rdr w rb B l e) : Calls Tryz.prog 42 #[.pointer (some ⟨rb, 0, none⟩)] w fun en w' => en = .returned (.int .i64 (endE l e)) ∧ Kept rb w w' := by
  have hk := rleft_any h
  by_cases q : 0 < l.length
  · have d : decide ((0 : Int) < (l.length : Int)) = true := decide_eq_true (by omega)
    have d' : decide (0 < l.length) = true := decide_eq_true q
    have hF := rfail_any h 11
    obtain ⟨m, hm⟩ : ∃ m, m = l.length := ⟨_, rfl⟩
    rw [← hm] at hk d d'
    have e1 : endE l e = failE e 11 := if_pos q
    replace hk := Lib.hid hk; replace h := Lib.hid h; replace q := Lib.hid q; replace hF := Lib.hid hF; replace e1 := Lib.hid e1; replace hm := Lib.hid hm
    go_enter Tryz.func42, Tryz.ntmps42
    go_wp2_with fail
    refine hk.out.mono ?_
    rintro en w1 ⟨rfl, rfl⟩
    go_wp2_with fail
    refine hF.out.mono ?_
    rintro en w2 ⟨rfl, hR2, hK2⟩
    have hE := rerr_any hR2
    replace hR2 := Lib.hid hR2; replace hK2 := Lib.hid hK2; replace hE := Lib.hid hE
    go_wp2_with fail
    refine hE.out.mono ?_
    rintro en w3 ⟨rfl, rfl⟩
    go_wp2
    go_ret
    exact ⟨by rw [e1.out]; rfl, hK2.out⟩
  · have d : decide ((0 : Int) < (l.length : Int)) = false := decide_eq_false (by omega)
    have d' : decide (0 < l.length) = false := decide_eq_false q
    obtain ⟨m, hm⟩ : ∃ m, m = l.length := ⟨_, rfl⟩
    rw [← hm] at hk d d'
    have e1 : endE l e = e := if_neg q
    have hE := rerr_any h
    replace hk := Lib.hid hk; replace h := Lib.hid h; replace q := Lib.hid q; replace e1 := Lib.hid e1; replace hm := Lib.hid hm; replace hE := Lib.hid hE
    go_enter Tryz.func42, Tryz.ntmps42
    go_wp2_with fail
    refine hk.out.mono ?_
    rintro en w1 ⟨rfl, rfl⟩
    go_wp2_with fail
    refine hE.out.mono ?_
    rintro en w3 ⟨rfl, rfl⟩
    go_wp2
    go_ret
    exact ⟨by rw [e1.out]; rfl, Kept.refl _ _⟩
end Go.Proofs.YteoihdkaoipocaaGreatDoor

/- corveeref08.Text: the document's text of a spec. -/
namespace Go.Proofs.YteoihdkaoipocaaGreatDoor
open Go.RowKit Go.Maps Go.Shelf Go.Sort

/-- a text's pieces so far -/
def five5 (s : Spp) : List UInt8 := [117, 115, 101, 114, 61] ++ s.user.data.toList ++ [32, 112, 97, 114, 116, 61] ++ s.part.data.toList ++ [32, 110, 111, 100, 101, 115, 61] ++ Lib.itoa s.nodes ++ [32, 100, 101, 109, 97, 110, 100, 61] ++ txtV s.dem ++ [32, 119, 97, 108, 108, 61] ++ Lib.itoa s.wall
def six6 (s : Spp) : List UInt8 := five5 s ++ (if s.prio = 0 then [] else [32, 112, 114, 105, 111, 61] ++ Lib.itoa s.prio)
def seven7 (s : Spp) : List UInt8 := six6 s ++ (if s.array = 1 then [] else [32, 97, 114, 114, 97, 121, 61] ++ Lib.itoa s.array)
def eight8 (s : Spp) : List UInt8 := seven7 s ++ (if s.retries = 0 then [] else [32, 114, 101, 116, 114, 105, 101, 115, 61] ++ Lib.itoa s.retries)
def nine9 (s : Spp) : List UInt8 := eight8 s ++ (if s.held = true then [32, 104, 101, 108, 100, 61, 49] else [])
def ten10 (s : Spp) (k : Nat) : List UInt8 := nine9 s ++ (if k = 0 then [] else [32, 97, 102, 116, 101, 114, 61] ++ listT (s.after.take k))
theorem inter_snoc (sep : List UInt8) (x : List UInt8) : ∀ (xs : List (List UInt8)), xs ≠ [] → sep.intercalate (xs ++ [x]) = sep.intercalate xs ++ sep ++ x
  | [y], _ => by simp [List.intercalate]
  | y :: z :: r, _ => by
    have e : sep.intercalate (y :: z :: r ++ [x]) = y ++ sep ++ sep.intercalate (z :: r ++ [x]) := by simp [List.intercalate]
    have e2 : sep.intercalate (y :: z :: r) = y ++ sep ++ sep.intercalate (z :: r) := by simp [List.intercalate]
    rw [e, e2, inter_snoc sep x (z :: r) (by simp)]
    simp
theorem inter_if (sep : List UInt8) (xs : List (List UInt8)) (hne : xs ≠ []) (c : Prop) [Decidable c] (x : List UInt8) : sep.intercalate (xs ++ (if c then [] else [x])) = sep.intercalate xs ++ (if c then [] else sep ++ x) := by
  by_cases h : c
  · rw [if_pos h, if_pos h]; simp
  · rw [if_neg h, if_neg h, inter_snoc _ _ _ hne]; simp
theorem inter_if' (sep : List UInt8) (xs : List (List UInt8)) (hne : xs ≠ []) (c : Prop) [Decidable c] (x : List UInt8) : sep.intercalate (xs ++ (if c then [x] else [])) = sep.intercalate xs ++ (if c then sep ++ x else []) := by
  by_cases h : c
  · rw [if_pos h, if_pos h, inter_snoc _ _ _ hne]; simp
  · rw [if_neg h, if_neg h]; simp
theorem ten10_all {s : Spp} (hs : mayS s = true) : ten10 s s.after.length = textS s := by
  rw [textS_may hs]
  show _ = List.intercalate [32] (kvs (pairsS s))
  have m1 : ∀ (c : Prop) [Decidable c] (p : ByteArray × List UInt8), kvs (if c then [] else [p]) = if c then [] else [kv p.1 p.2] := fun c _ p => by split <;> rfl
  have m2 : ∀ (c : Prop) [Decidable c] (p : ByteArray × List UInt8), kvs (if c then [p] else []) = if c then [kv p.1 p.2] else [] := fun c _ p => by split <;> rfl
  have ma : ∀ a b, kvs (a ++ b) = kvs a ++ kvs b := fun a b => by simp [kvs]
  unfold pairsS
  rw [ma, ma, ma, ma, ma, m1, m1, m1, m2, m1, inter_if _ _ (by simp [kvs]), inter_if' _ _ (by simp [kvs]), inter_if _ _ (by simp [kvs]), inter_if _ _ (by simp [kvs]), inter_if _ _ (by simp [kvs])]
  have e5 : List.intercalate [32] (kvs [(kUser, s.user.data.toList), (kPart, s.part.data.toList), (kNodes, Lib.itoa s.nodes), (kDemand, txtV s.dem), (kWall, Lib.itoa s.wall)]) = five5 s := by
    simp [kvs, List.intercalate, kv, five5, kUser, kPart, kNodes, kDemand, kWall]
  rw [e5]
  unfold ten10 nine9 eight8 seven7 six6
  have ea : (if s.after.length = 0 then ([] : List UInt8) else [32, 97, 102, 116, 101, 114, 61] ++ listT (s.after.take s.after.length)) = if s.after = [] then [] else [32] ++ kv kAfter (listT s.after) := by
    by_cases h : s.after = []
    · rw [if_pos h, if_pos (by rw [h]; rfl)]
    · rw [if_neg h, if_neg (fun c => h (List.length_eq_zero_iff.1 c)), List.take_of_length_le (Nat.le_refl _)]
      simp [kv, kAfter]
  rw [ea]
  have e1 : (if s.prio = 0 then ([] : List UInt8) else [32, 112, 114, 105, 111, 61] ++ Lib.itoa s.prio) = if s.prio = 0 then [] else [32] ++ kv kPrio (Lib.itoa s.prio) := by
    split
    · rfl
    · simp [kv, kPrio]
  have e2 : (if s.array = 1 then ([] : List UInt8) else [32, 97, 114, 114, 97, 121, 61] ++ Lib.itoa s.array) = if s.array = 1 then [] else [32] ++ kv kArray (Lib.itoa s.array) := by
    split
    · rfl
    · simp [kv, kArray]
  have e3 : (if s.retries = 0 then ([] : List UInt8) else [32, 114, 101, 116, 114, 105, 101, 115, 61] ++ Lib.itoa s.retries) = if s.retries = 0 then [] else [32] ++ kv kRetries (Lib.itoa s.retries) := by
    split
    · rfl
    · simp [kv, kRetries]
  have e4 : (if s.held = true then ([32, 104, 101, 108, 100, 61, 49] : List UInt8) else []) = if s.held = true then [32] ++ kv kHeld [49] else [] := by
    split
    · simp [kv, kHeld]
    · rfl
  rw [e1, e2, e3, e4]
theorem ten10_step {s : Spp} {k : Nat} {y : Int} (h : s.after[k]? = some y) : ten10 s (k + 1) = ten10 s k ++ (if k = 0 then [32, 97, 102, 116, 101, 114, 61] else [44]) ++ Lib.itoa y := by
  unfold ten10
  rw [if_neg (by omega), List.take_add_one, h]
  by_cases c : k = 0
  · subst c
    simp [listT, Lib.join]
  · rw [if_neg c, if_neg c]
    have : listT (s.after.take k ++ (some y).toList) = listT (s.after.take k) ++ [44] ++ Lib.itoa y := by
      unfold listT
      rw [List.map_append]
      exact inter_snoc [44] (Lib.itoa y) _ (by
        have := (List.getElem?_eq_some_iff.1 h).1
        intro e
        have e2 := congrArg List.length e
        rw [List.length_map, List.length_take, List.length_nil] at e2
        omega)
    rw [this]
    simp
theorem ten10_le {s : Spp} (hs : mayS s = true) (k : Nat) (hk : k ≤ s.after.length) : (ten10 s k).length ≤ 1810 := by
  have key : ∀ j, j + k ≤ s.after.length → (ten10 s k).length ≤ (ten10 s (j + k)).length := by
    intro j
    induction j with
    | zero => intro _; rw [Nat.zero_add]; exact Nat.le_refl _
    | succ j ih =>
      intro h
      have h' : j + k < s.after.length := by omega
      refine Nat.le_trans (ih (Nat.le_of_lt h')) ?_
      rw [show j + 1 + k = (j + k) + 1 by omega, ten10_step (List.getElem?_eq_getElem h')]
      simp only [List.length_append]
      omega
  have hkk : s.after.length - k + k = s.after.length := Nat.sub_add_cancel hk
  have h1 := key (s.after.length - k) (Nat.le_of_eq hkk)
  rw [hkk, ten10_all hs] at h1
  exact Nat.le_trans h1 (textS_len hs)
theorem nine9_le {s : Spp} (hs : mayS s = true) : (nine9 s).length ≤ 1810 := by
  have := ten10_le hs 0 (Nat.zero_le _)
  unfold ten10 at this
  simpa using this
theorem parts_le {s : Spp} (hs : mayS s = true) : (five5 s).length ≤ 1810 ∧ (six6 s).length ≤ 1810 ∧ (seven7 s).length ≤ 1810 ∧ (eight8 s).length ≤ 1810 := by
  have h := nine9_le hs
  have h8 : (eight8 s).length ≤ (nine9 s).length := by unfold nine9; rw [List.length_append]; omega
  have h7 : (seven7 s).length ≤ (eight8 s).length := by unfold eight8; rw [List.length_append]; omega
  have h6 : (six6 s).length ≤ (seven7 s).length := by unfold seven7; rw [List.length_append]; omega
  have h5 : (five5 s).length ≤ (six6 s).length := by unfold six6; rw [List.length_append]; omega
  exact ⟨by omega, by omega, by omega, by omega⟩
theorem five5_eq (s : Spp) : ({ data := #[117, 115, 101, 114, 61] } : ByteArray) ++ s.user ++ ({ data := #[32, 112, 97, 114, 116, 61] } : ByteArray) ++ s.part ++ ({ data := #[32, 110, 111, 100, 101, 115, 61] } : ByteArray) ++ ofL (Lib.itoa s.nodes) ++ ({ data := #[32, 100, 101, 109, 97, 110, 100, 61] } : ByteArray) ++ ofL (txtV s.dem) ++ ({ data := #[32, 119, 97, 108, 108, 61] } : ByteArray) ++ ofL (Lib.itoa s.wall) = ofL (five5 s) := by
  rw [show ({ data := #[117, 115, 101, 114, 61] } : ByteArray) = ofL [117, 115, 101, 114, 61] from rfl, show ({ data := #[32, 112, 97, 114, 116, 61] } : ByteArray) = ofL [32, 112, 97, 114, 116, 61] from rfl, show ({ data := #[32, 110, 111, 100, 101, 115, 61] } : ByteArray) = ofL [32, 110, 111, 100, 101, 115, 61] from rfl,
    show ({ data := #[32, 100, 101, 109, 97, 110, 100, 61] } : ByteArray) = ofL [32, 100, 101, 109, 97, 110, 100, 61] from rfl, show ({ data := #[32, 119, 97, 108, 108, 61] } : ByteArray) = ofL [32, 119, 97, 108, 108, 61] from rfl]
  conv => lhs; rw [← ofL_self s.user, ← ofL_self s.part]
  simp only [ofL_app]
  rfl
theorem piece_eq (a b c : List UInt8) {x y z : ByteArray} (hx : x = ofL a) (hy : y = ofL b) (hz : z = ofL c) : x ++ (y ++ z) = ofL (a ++ (b ++ c)) := by
  rw [hx, hy, hz, ofL_app, ofL_app]
theorem piece_eq2 (a b : List UInt8) {x y : ByteArray} (hx : x = ofL a) (hy : y = ofL b) : x ++ y = ofL (a ++ b) := by
  rw [hx, hy, ofL_app]
/-- the text so far, and the spec's box -/
structure RtA (w : World) (x : Spv) (T : ByteArray) (tv : Value) (wx : World) : Prop where
  t : tv = .string T
  low : Below w.heap.size w wx
  box : wx.heap[w.heap.size]? = some (.cells x.cells 26 (0, 0))
structure Tst (T : ByteArray) (W : World) (tv : Value) (wx : World) : Prop where
  t : tv = .string T
  w : W = wx

set_option maxRecDepth 100000 in
set_option maxHeartbeats 3200000 in
theorem rstext_any (x : Spv) (w : World) (hx : x.ok w) : Calls Tryz.prog 50 #[x.val] w fun e w' => e = .returned (.string (ofL (textS x.pl))) ∧ Below w.heap.size w w' := by
  have hB0 := BoxC.new w x
  have hk := may_any x _ (hB0.ok hx)
  by_cases hs : mayS x.pl = true
  rotate_left
  · have hte : textS x.pl = [] := if_neg hs
    have he : mayS x.pl = false := by simpa using hs
    rw [he] at hk
    obtain ⟨⟨user, part, nodes, ⟨da, db, dc, dd⟩, wall, prio, array, retries, held, after⟩, so, n, cp⟩ := x
    replace hte := Lib.hid hte; replace hk := Lib.hid hk; replace hB0 := Lib.hid hB0; replace hx := Lib.hid hx; replace hs := Lib.hid hs; replace he := Lib.hid he
    go_enter Tryz.func50, Tryz.ntmps50
    go_wp2_with fail
    refine hk.out.mono ?_
    rintro e w1 ⟨rfl, hb⟩
    have hB1 := hB0.out.below hb
    replace hB1 := Lib.hid hB1; replace hb := Lib.hid hb
    go_wp2
    go_ret
    exact ⟨by rw [hte.out]; rfl, hB1.out.low⟩
  rw [hs] at hk
  obtain ⟨q1, q2, q3, q4, q5, q6, q7, q8, q9⟩ := mayS_parts hs
  have qd := demOk_iff.1 q3
  have a1 := isName_le q1
  have a2 := isName_le q2
  have hv64 := v64_cap (capOk_right qd.1)
  have a3 := txtV_len hv64
  have b5 := betw_iff.1 q5
  have b6 := betw_iff.1 q6
  have b7 := betw_iff.1 q7
  have b8 := betw_iff.1 q8
  have b9 := betw_iff.1 q9
  have d5 := itoa_bd (n := x.pl.nodes) (by omega) (by omega)
  have d6 := itoa_bd (n := x.pl.wall) (by omega) (by omega)
  have d7 := itoa_bd (n := x.pl.prio) (by omega) (by omega)
  have d8 := itoa_bd (n := x.pl.array) (by omega) (by omega)
  have d9 := itoa_bd (n := x.pl.retries) (by omega) (by omega)
  obtain ⟨V1, hV1⟩ : ∃ V, V = ofL (Lib.itoa x.pl.nodes) := ⟨_, rfl⟩
  obtain ⟨V2, hV2⟩ : ∃ V, V = ofL (txtV x.pl.dem) := ⟨_, rfl⟩
  obtain ⟨V3, hV3⟩ : ∃ V, V = ofL (Lib.itoa x.pl.wall) := ⟨_, rfl⟩
  obtain ⟨V4', hV4⟩ : ∃ V, V = ofL (Lib.itoa x.pl.prio) := ⟨_, rfl⟩
  obtain ⟨V5, hV5⟩ : ∃ V, V = ofL (Lib.itoa x.pl.array) := ⟨_, rfl⟩
  obtain ⟨V6, hV6⟩ : ∃ V, V = ofL (Lib.itoa x.pl.retries) := ⟨_, rfl⟩
  have s1 : V1.size ≤ 20 := by rw [hV1, ofL_size]; omega
  have s2 : V2.size ≤ 83 := by rw [hV2, ofL_size]; omega
  have s3 : V3.size ≤ 20 := by rw [hV3, ofL_size]; omega
  have s4 : V4'.size ≤ 20 := by rw [hV4, ofL_size]; omega
  have s5 : V5.size ≤ 20 := by rw [hV5, ofL_size]; omega
  have s6 : V6.size ≤ 20 := by rw [hV6, ofL_size]; omega
  have k1 : ∀ W, Calls Tryz.prog 87 #[.int .i64 x.pl.nodes] W fun e w' => e = .returned (.string V1) ∧ w' = W := fun W => by rw [hV1]; exact digits_any _ (by omega) (by omega) W
  have k2 : ∀ W, Calls Tryz.prog 88 #[x.pl.dem.val] W fun e w' => e = .returned (.string V2) ∧ Below W.heap.size W w' := fun W => by rw [hV2]; exact rtext_any _ hv64 W
  have k3 : ∀ W, Calls Tryz.prog 87 #[.int .i64 x.pl.wall] W fun e w' => e = .returned (.string V3) ∧ w' = W := fun W => by rw [hV3]; exact digits_any _ (by omega) (by omega) W
  have k4 : ∀ W, Calls Tryz.prog 87 #[.int .i64 x.pl.prio] W fun e w' => e = .returned (.string V4') ∧ w' = W := fun W => by rw [hV4]; exact digits_any _ (by omega) (by omega) W
  have k5 : ∀ W, Calls Tryz.prog 87 #[.int .i64 x.pl.array] W fun e w' => e = .returned (.string V5) ∧ w' = W := fun W => by rw [hV5]; exact digits_any _ (by omega) (by omega) W
  have k6 : ∀ W, Calls Tryz.prog 87 #[.int .i64 x.pl.retries] W fun e w' => e = .returned (.string V6) ∧ w' = W := fun W => by rw [hV6]; exact digits_any _ (by omega) (by omega) W
  obtain ⟨p5, p6, p7, p8⟩ := parts_le hs
  have p9 := nine9_le hs
  obtain ⟨T5, hT5⟩ : ∃ T, T = ofL (five5 x.pl) := ⟨_, rfl⟩
  obtain ⟨T6, hT6⟩ : ∃ T, T = ofL (six6 x.pl) := ⟨_, rfl⟩
  obtain ⟨T7, hT7⟩ : ∃ T, T = ofL (seven7 x.pl) := ⟨_, rfl⟩
  obtain ⟨T8, hT8⟩ : ∃ T, T = ofL (eight8 x.pl) := ⟨_, rfl⟩
  obtain ⟨T9, hT9⟩ : ∃ T, T = ofL (nine9 x.pl) := ⟨_, rfl⟩
  have t5 : T5.size ≤ 1810 := by rw [hT5, ofL_size]; exact p5
  have t6 : T6.size ≤ 1810 := by rw [hT6, ofL_size]; exact p6
  have t7 : T7.size ≤ 1810 := by rw [hT7, ofL_size]; exact p7
  have t8 : T8.size ≤ 1810 := by rw [hT8, ofL_size]; exact p8
  have t9 : T9.size ≤ 1810 := by rw [hT9, ofL_size]; exact p9
  have hfive : ({ data := #[117, 115, 101, 114, 61] } : ByteArray) ++ x.pl.user ++ ({ data := #[32, 112, 97, 114, 116, 61] } : ByteArray) ++ x.pl.part ++ ({ data := #[32, 110, 111, 100, 101, 115, 61] } : ByteArray) ++ V1 ++ ({ data := #[32, 100, 101, 109, 97, 110, 100, 61] } : ByteArray) ++ V2 ++ ({ data := #[32, 119, 97, 108, 108, 61] } : ByteArray) ++ V3 = T5 := by
    rw [hV1, hV2, hV3, hT5]; exact five5_eq x.pl
  have hsix : x.pl.prio ≠ 0 → T5 ++ (({ data := #[32, 112, 114, 105, 111, 61] } : ByteArray) ++ V4') = T6 := fun h => by
    rw [hT6]; refine (piece_eq _ [32, 112, 114, 105, 111, 61] _ hT5 rfl hV4).trans ?_; unfold six6; rw [if_neg h]
  have hsix0 : x.pl.prio = 0 → T5 = T6 := fun h => by rw [hT5, hT6]; unfold six6; rw [if_pos h, List.append_nil]
  have hsev : x.pl.array ≠ 1 → T6 ++ (({ data := #[32, 97, 114, 114, 97, 121, 61] } : ByteArray) ++ V5) = T7 := fun h => by
    rw [hT7]; refine (piece_eq _ [32, 97, 114, 114, 97, 121, 61] _ hT6 rfl hV5).trans ?_; unfold seven7; rw [if_neg h]
  have hsev0 : x.pl.array = 1 → T6 = T7 := fun h => by rw [hT6, hT7]; unfold seven7; rw [if_pos h, List.append_nil]
  have heig : x.pl.retries ≠ 0 → T7 ++ (({ data := #[32, 114, 101, 116, 114, 105, 101, 115, 61] } : ByteArray) ++ V6) = T8 := fun h => by
    rw [hT8]; refine (piece_eq _ [32, 114, 101, 116, 114, 105, 101, 115, 61] _ hT7 rfl hV6).trans ?_; unfold eight8; rw [if_neg h]
  have heig0 : x.pl.retries = 0 → T7 = T8 := fun h => by rw [hT7, hT8]; unfold eight8; rw [if_pos h, List.append_nil]
  have hnin : x.pl.held = true → T8 ++ ({ data := #[32, 104, 101, 108, 100, 61, 49] } : ByteArray) = T9 := fun h => by
    rw [hT9]; refine (piece_eq2 _ [32, 104, 101, 108, 100, 61, 49] hT8 rfl).trans ?_; unfold nine9; rw [if_pos h]
  have hnin0 : x.pl.held = false → T8 = T9 := fun h => by rw [hT8, hT9]; unfold nine9; rw [if_neg (by rw [h]; decide), List.append_nil]
  have hend : ofL (ten10 x.pl x.pl.after.length) = ofL (textS x.pl) := by rw [ten10_all hs]
  have hstep : ∀ k y, x.pl.after[k]? = some y → ten10 x.pl (k + 1) = ten10 x.pl k ++ (if k = 0 then [32, 97, 102, 116, 101, 114, 61] else [44]) ++ Lib.itoa y := fun k y h => ten10_step h
  have hten0 : T9 = ofL (ten10 x.pl 0) := by rw [hT9]; unfold ten10; rw [if_pos rfl, List.append_nil]
  have hlt : ∀ k, k ≤ x.pl.after.length → (ofL (ten10 x.pl k)).size ≤ 1810 := fun k hk => by rw [ofL_size]; exact ten10_le hs k hk
  have haf := waits_all q4
  have haln := hx.after.len
  clear hV1 hV2 hV3 hV4 hV5 hV6 hT5 hT6 hT7 hT8 hT9 q1 q2 q3 q4 q5 q6 q7 q8 q9 qd hv64 a3 b5 b6 b7 b8 b9 d5 d6 d7 d8 d9 p5 p6 p7 p8 p9
  obtain ⟨⟨user, part, nodes, ⟨da, db, dc, dd⟩, wall, prio, array, retries, held, after⟩, so, n, cp⟩ := x
  simp only at a1 a2 hfive haf haln
  have g1 : ¬ 9223372036854775807 < 5 + user.size := by omega
  have g2 : ¬ 9223372036854775807 < 5 + user.size + 6 := by omega
  have g3 : ¬ 9223372036854775807 < 5 + user.size + 6 + part.size := by omega
  have g4 : ¬ 9223372036854775807 < 5 + user.size + 6 + part.size + 7 := by omega
  have g5 : ¬ 9223372036854775807 < 5 + user.size + 6 + part.size + 7 + V1.size := by omega
  have g6 : ¬ 9223372036854775807 < 5 + user.size + 6 + part.size + 7 + V1.size + 8 := by omega
  have g7 : ¬ 9223372036854775807 < 5 + user.size + 6 + part.size + 7 + V1.size + 8 + V2.size := by omega
  have g8 : ¬ 9223372036854775807 < 5 + user.size + 6 + part.size + 7 + V1.size + 8 + V2.size + 6 := by omega
  have g9 : ¬ 9223372036854775807 < 5 + user.size + 6 + part.size + 7 + V1.size + 8 + V2.size + 6 + V3.size := by omega
  replace k1 := Lib.hid k1; replace k2 := Lib.hid k2; replace k3 := Lib.hid k3; replace k4 := Lib.hid k4; replace k5 := Lib.hid k5; replace k6 := Lib.hid k6; replace hk := Lib.hid hk; replace hx := Lib.hid hx; replace hB0 := Lib.hid hB0; replace hfive := Lib.hid hfive; replace hsix := Lib.hid hsix; replace hsix0 := Lib.hid hsix0; replace hsev := Lib.hid hsev; replace hsev0 := Lib.hid hsev0; replace heig := Lib.hid heig; replace heig0 := Lib.hid heig0; replace hnin := Lib.hid hnin; replace hnin0 := Lib.hid hnin0; replace hend := Lib.hid hend; replace hstep := Lib.hid hstep; replace hten0 := Lib.hid hten0; replace hlt := Lib.hid hlt; replace haf := Lib.hid haf; replace haln := Lib.hid haln; replace hs := Lib.hid hs; replace a1 := Lib.hid a1; replace a2 := Lib.hid a2; replace s1 := Lib.hid s1; replace s2 := Lib.hid s2; replace s3 := Lib.hid s3; replace s4 := Lib.hid s4; replace s5 := Lib.hid s5; replace s6 := Lib.hid s6; replace t5 := Lib.hid t5; replace t6 := Lib.hid t6; replace t7 := Lib.hid t7; replace t8 := Lib.hid t8; replace t9 := Lib.hid t9
  go_enter Tryz.func50, Tryz.ntmps50
  go_wp2_with fail
  refine hk.out.mono ?_
  rintro e w1 ⟨rfl, hb⟩
  have hB1 := hB0.out.below hb
  have hcur := Below.refl w1.heap.size w1
  have hX := hB1.box
  replace hB1 := Lib.hid hB1; replace hb := Lib.hid hb; replace hcur := Lib.hid hcur; replace hX := Lib.hid hX
  have hS : ∀ W' : World, W'.heap[w.heap.size]? = some (.cells (⟨⟨user, part, nodes, ⟨da, db, dc, dd⟩, wall, prio, array, retries, held, after⟩, so, n, cp⟩ : Spv).cells 26 (0, 0)) → W'.cell? ⟨w.heap.size, 0, none⟩ = some (.string user) ∧ W'.cell? ⟨w.heap.size, 1, none⟩ = some (.string part) ∧ W'.cell? ⟨w.heap.size, 2, none⟩ = some (.int .i64 nodes) ∧ W'.cell? ⟨w.heap.size, 3, none⟩ = some (.int .i64 da) ∧ W'.cell? ⟨w.heap.size, 4, none⟩ = some (.int .i64 db) ∧ W'.cell? ⟨w.heap.size, 5, none⟩ = some (.int .i64 dc) ∧ W'.cell? ⟨w.heap.size, 6, none⟩ = some (.int .i64 dd) ∧ W'.cell? ⟨w.heap.size, 7, none⟩ = some (.int .i64 wall) := fun W' h =>
    ⟨blk_cell h 0, blk_cell h 1, blk_cell h 2, blk_cell h 3, blk_cell h 4, blk_cell h 5, blk_cell h 6, blk_cell h 7⟩
  obtain ⟨c0, c1, c2, c3, c4, c5, c6, c7⟩ := hS w1 hX.out
  replace hS := Lib.hid hS
  go_upto_region 4 with fail
  clear c0 c1 c2 c3 c4 c5 c6 c7
  go_cut [4] (fun tv wx => RtA w ⟨⟨user, part, nodes, ⟨da, db, dc, dd⟩, wall, prio, array, retries, held, after⟩, so, n, cp⟩ T5 tv wx)
  case first =>
    replace hcur := Lib.hid (hcur.out.drew)
    replace hX := Lib.hid (blk_drew hX.out)
    go_region_held3 (fun W' => W'.cell? ⟨w.heap.size, 0, none⟩ = some (.string user) ∧ W'.cell? ⟨w.heap.size, 1, none⟩ = some (.string part) ∧ W'.cell? ⟨w.heap.size, 2, none⟩ = some (.int .i64 nodes) ∧ W'.cell? ⟨w.heap.size, 3, none⟩ = some (.int .i64 da) ∧ W'.cell? ⟨w.heap.size, 4, none⟩ = some (.int .i64 db) ∧ W'.cell? ⟨w.heap.size, 5, none⟩ = some (.int .i64 dc) ∧ W'.cell? ⟨w.heap.size, 6, none⟩ = some (.int .i64 dd) ∧ W'.cell? ⟨w.heap.size, 7, none⟩ = some (.int .i64 wall))
      (first
        | with_reducible exact hS.out _ hX.out)
      (first
        | (go_at_call 87
           (with_reducible refine (k1.out _).mono ?_)
           rintro e wz ⟨rfl, rfl⟩)
        | (go_at_call 87
           (with_reducible refine (k3.out _).mono ?_)
           rintro e wz ⟨rfl, rfl⟩)
        | (go_at_call 88
           (with_reducible refine (k2.out _).mono ?_)
           rintro e wz ⟨rfl, hbz⟩
           replace hX := Lib.hid (blk_below hbz hX.out (blk_lt hX.out))
           replace hcur := Lib.hid (hcur.out.trans (hbz.mono hcur.out.size))
           replace hbz := Lib.hid hbz))
    all_goals
      go_wp2_with fail
      go_meet
      case rel => exact ⟨by rw [← hfive.out], hB1.out.low.trans (hcur.out.mono hB1.out.low.size), hX.out⟩
  case rest =>
  obtain ⟨rfl, hlow, hbox⟩ := hcut
  have c8 : wc.cell? ⟨w.heap.size, 8, none⟩ = some (.int .i64 prio) := blk_cell hbox 8
  have c9 : wc.cell? ⟨w.heap.size, 9, none⟩ = some (.int .i64 array) := blk_cell hbox 9
  have c10 : wc.cell? ⟨w.heap.size, 10, none⟩ = some (.int .i64 retries) := blk_cell hbox 10
  have c11 : wc.cell? ⟨w.heap.size, 11, none⟩ = some (.bool held) := blk_cell hbox 11
  have c12 : wc.cell? ⟨w.heap.size, 12, none⟩ = some (.slice so n cp) := blk_cell hbox 12
  obtain ⟨wq, hwq⟩ : ∃ W, W = wc := ⟨_, rfl⟩
  rw [← hwq] at c8 c9 c10 c11 c12 hlow hbox ⊢
  clear hwq
  replace hlow := Lib.hid hlow; replace hbox := Lib.hid hbox
  clear g1 g2 g3 g4 g5 g6 g7 g8 g9
  go_upto_if 34 with fail
  go_cut [4] (fun tv wx => Tst T6 wq tv wx)
  case first =>
    by_cases q : prio = 0
    · have d : (prio != 0) = false := by simp [q]
      have hz := hsix0.out q
      replace q := Lib.hid q; replace hz := Lib.hid hz
      go_wp2
      go_meet
      case rel => exact ⟨by rw [hz.out], rfl⟩
    · have d : (prio != 0) = true := by simp [q]
      have d2 : (prio == 0) = false := by simp [q]
      have hz := hsix.out q
      have u1 : ¬ 9223372036854775807 < 6 + V4'.size := by have := s4.out; omega
      have u2 : ¬ 9223372036854775807 < T5.size + (6 + V4'.size) := by have := s4.out; have := t5.out; omega
      replace q := Lib.hid q; replace hz := Lib.hid hz
      go_wp2_with fail
      refine (k4.out _).mono ?_
      rintro e w5 ⟨rfl, rfl⟩
      go_wp2
      go_meet
      case rel => exact ⟨by rw [← hz.out], rfl⟩
  case rest =>
  obtain ⟨rfl, rfl⟩ := hcut
  go_upto_if 43 with fail
  go_cut [4] (fun tv wx => Tst T7 wq tv wx)
  case first =>
    by_cases q : array = 1
    · have d : (array != 1) = false := by simp [q]
      have hz := hsev0.out q
      replace q := Lib.hid q; replace hz := Lib.hid hz
      go_wp2
      go_meet
      case rel => exact ⟨by rw [hz.out], rfl⟩
    · have d : (array != 1) = true := by simp [q]
      have d2 : (array == 1) = false := by simp [q]
      have hz := hsev.out q
      have u1 : ¬ 9223372036854775807 < 7 + V5.size := by have := s5.out; omega
      have u2 : ¬ 9223372036854775807 < T6.size + (7 + V5.size) := by have := s5.out; have := t6.out; omega
      replace q := Lib.hid q; replace hz := Lib.hid hz
      go_wp2_with fail
      refine (k5.out _).mono ?_
      rintro e w5 ⟨rfl, rfl⟩
      go_wp2
      go_meet
      case rel => exact ⟨by rw [← hz.out], rfl⟩
  case rest =>
  obtain ⟨rfl, rfl⟩ := hcut
  go_upto_if 52 with fail
  go_cut [4] (fun tv wx => Tst T8 wq tv wx)
  case first =>
    by_cases q : retries = 0
    · have d : (retries != 0) = false := by simp [q]
      have hz := heig0.out q
      replace q := Lib.hid q; replace hz := Lib.hid hz
      go_wp2
      go_meet
      case rel => exact ⟨by rw [hz.out], rfl⟩
    · have d : (retries != 0) = true := by simp [q]
      have d2 : (retries == 0) = false := by simp [q]
      have hz := heig.out q
      have u1 : ¬ 9223372036854775807 < 9 + V6.size := by have := s6.out; omega
      have u2 : ¬ 9223372036854775807 < T7.size + (9 + V6.size) := by have := s6.out; have := t7.out; omega
      replace q := Lib.hid q; replace hz := Lib.hid hz
      go_wp2_with fail
      refine (k6.out _).mono ?_
      rintro e w5 ⟨rfl, rfl⟩
      go_wp2
      go_meet
      case rel => exact ⟨by rw [← hz.out], rfl⟩
  case rest =>
  obtain ⟨rfl, rfl⟩ := hcut
  go_upto_if 60 with fail
  go_cut [4] (fun tv wx => Tst T9 wq tv wx)
  case first =>
    cases held with
    | false =>
      have hz := hnin0.out rfl
      replace hz := Lib.hid hz
      go_wp2
      go_meet
      case rel => exact ⟨by rw [hz.out], rfl⟩
    | true =>
      have hz := hnin.out rfl
      have u1 : ¬ 9223372036854775807 < T8.size + 7 := by have := t8.out; omega
      replace hz := Lib.hid hz
      go_wp2
      go_meet
      case rel => exact ⟨by rw [← hz.out], rfl⟩
  case rest =>
  obtain ⟨rfl, rfl⟩ := hcut
  clear c8 c9 c10 c11
  have hrow := (hx.out.low hlow.out).after
  have hnn : n ≤ cp := hx.out.ple
  have hnmax := hrow.max
  have hlen := hrow.len
  replace hrow := Lib.hid hrow
  go_wp2
  go_loopw [4, 5] (fun tv i wr => ∃ k : Nat, i = .int .i64 k ∧ k ≤ n ∧ Hid (tv = .string (ofL (ten10 ⟨user, part, nodes, ⟨da, db, dc, dd⟩, wall, prio, array, retries, held, after⟩ k))) ∧ wr = wq) (fun _ i _ => n - (intOf i).toNat)
  case atStart => exact ⟨0, rfl, Nat.zero_le _, by rw [← hten0.out]; rfl, rfl⟩
  case round =>
    obtain ⟨k, rfl, hk, ht, rfl⟩ := hrel
    obtain ⟨T, hT⟩ : ∃ T, T = ofL (ten10 ⟨user, part, nodes, ⟨da, db, dc, dd⟩, wall, prio, array, retries, held, after⟩ k) := ⟨_, rfl⟩
    have hTl : T.size ≤ 1810 := by rw [hT]; exact hlt.out k (by show k ≤ after.length; rw [hlen]; exact hk)
    have ht' := ht.out
    rw [← hT] at ht'
    subst ht'
    by_cases hc : k < n
    · have hc1 : (k : Int) < n := by omega
      have hk0 : (0 : Int) ≤ (k : Int) := by omega
      obtain ⟨y, hy⟩ := hrow.out.get hc
      obtain ⟨b, off, rfl, hb, a0⟩ := hrow.out.cell k y hy
      have hbd := okw_bd (haf.out y (List.mem_of_getElem? hy))
      have hcd := fun W => digits_any y (by omega) (by omega) W
      obtain ⟨D, hD⟩ : ∃ D, D = ofL (Lib.itoa y) := ⟨_, rfl⟩
      rw [← hD] at hcd
      have hDl : D.size ≤ 20 := by rw [hD, ofL_size]; exact itoa_bd (by omega) (by omega)
      have hst := hstep.out k y hy
      by_cases hz : k = 0
      · subst hz
        simp only [Nat.add_zero] at a0
        have u1 : ¬ 9223372036854775807 < T.size + 7 := by omega
        have u2 : ¬ 9223372036854775807 < T.size + 7 + D.size := by omega
        have hc0 : 0 < n := hc
        have hT1 : T ++ ({ data := #[32, 97, 102, 116, 101, 114, 61] } : ByteArray) ++ D = ofL (ten10 ⟨user, part, nodes, ⟨da, db, dc, dd⟩, wall, prio, array, retries, held, after⟩ 1) := by
          rw [show (1 : Nat) = 0 + 1 from rfl, hst, hT, hD, if_pos rfl, ← ofL_app, ← ofL_app]; rfl
        replace ht := Lib.hid ht; replace hT := Lib.hid hT; replace hTl := Lib.hid hTl; replace hy := Lib.hid hy; replace hbd := Lib.hid hbd; replace hcd := Lib.hid hcd; replace hD := Lib.hid hD; replace hDl := Lib.hid hDl; replace hst := Lib.hid hst; replace hT1 := Lib.hid hT1
        go_wp2_with fail
        refine (hcd.out _).mono ?_
        rintro e w5 ⟨rfl, rfl⟩
        go_wp2
        go_roundw
        case rel => exact ⟨1, by go_num, by omega, by rw [hT1.out]; rfl, trivial⟩
        case measure => simp [intOf]; omega
      · have d : ((k : Int) == 0) = false := by simp; omega
        have d' : decide (k = 0) = false := by simp [hz]
        have u1 : ¬ 9223372036854775807 < T.size + 1 := by omega
        have u2 : ¬ 9223372036854775807 < T.size + 1 + D.size := by omega
        have hT1 : T ++ ({ data := #[44] } : ByteArray) ++ D = ofL (ten10 ⟨user, part, nodes, ⟨da, db, dc, dd⟩, wall, prio, array, retries, held, after⟩ (k + 1)) := by
          rw [hst, hT, hD, if_neg hz, ← ofL_app, ← ofL_app]; rfl
        replace ht := Lib.hid ht; replace hT := Lib.hid hT; replace hTl := Lib.hid hTl; replace hy := Lib.hid hy; replace hbd := Lib.hid hbd; replace hcd := Lib.hid hcd; replace hD := Lib.hid hD; replace hDl := Lib.hid hDl; replace hst := Lib.hid hst; replace hT1 := Lib.hid hT1; replace hz := Lib.hid hz
        go_wp2_with fail
        refine (hcd.out _).mono ?_
        rintro e w5 ⟨rfl, rfl⟩
        go_wp2
        go_roundw
        case rel => exact ⟨k + 1, by go_num, by omega, by rw [hT1.out]; rfl, trivial⟩
        case measure => simp [intOf]; omega
    · have hc1 : ¬ (k : Int) < n := by omega
      have hkn : k = n := by omega
      subst hkn
      have hTt : T = ofL (textS ⟨user, part, nodes, ⟨da, db, dc, dd⟩, wall, prio, array, retries, held, after⟩) := by
        rw [hT, ← hend.out]; show ofL (ten10 _ k) = ofL (ten10 _ after.length); rw [hlen]
      replace ht := Lib.hid ht; replace hT := Lib.hid hT; replace hTl := Lib.hid hTl; replace hTt := Lib.hid hTt
      go_wp2
      go_ret
      exact ⟨by rw [hTt.out]; rfl, hlow.out⟩
end Go.Proofs.YteoihdkaoipocaaGreatDoor

/- corveeref08.row: the numbers of a text, as the document tells them. -/
namespace Go.Proofs.YteoihdkaoipocaaGreatDoor
open Go.RowKit Go.Maps Go.Shelf Go.Sort

def RowPost (v : ByteArray) (w : World) (e : Ending) (w' : World) : Prop :=
  Below w.heap.size w w' ∧ ∃ so n c l b, e = .returned (.tuple #[.slice so n c, .bool b]) ∧ n ≤ c ∧ IntsAt w' so n l ∧ (∀ b o, so = some ⟨b, o, none⟩ → w.heap.size ≤ b ∧ b < w'.heap.size) ∧ rowN v = if b = true then some l else none
theorem rowN_none {v : ByteArray} (h : manyN (cutAll 44 v.data.toList) = none) : rowN v = none := by unfold rowN; rw [h]
theorem rowN_yes {v : ByteArray} {l : List Int} {b : Bool} (h : manyN (cutAll 44 v.data.toList) = some l) (hb : b = waitsL l) : rowN v = if b = true then some l else none := by unfold rowN; rw [h, hb]
set_option maxRecDepth 100000 in
set_option maxHeartbeats 3200000 in
theorem rrow_any (s : ByteArray) (w : World) (hs : s.size ≤ 4294967200) : Calls Tryz.prog 132 #[.string s] w (RowPost s w) := by
  obtain ⟨i3, hi3, hz3, hz31, hz32⟩ := info_parts info3
  have hsp := rcut_any s 44 w (by omega)
  obtain ⟨ps, hpse⟩ : ∃ ps, ps = cutAll 44 s.data.toList := ⟨_, rfl⟩
  obtain ⟨L, hps⟩ : ∃ L, L = ps.length := ⟨_, rfl⟩
  have hLm : L ≤ s.size + 1 := by rw [hps, hpse]; exact cutAll_many _
  have hle : ∀ p, p ∈ ps → p.length ≤ s.size := fun p hp => by rw [hpse] at hp; exact cutAll_le hp
  have hL0 : 0 < L := by rw [hps, hpse]; exact cutAll_pos _ _
  rw [← hpse] at hsp
  have hm9 : maxLen = 9223372036854775807 := rfl
  replace hsp := Lib.hid hsp; replace hpse := Lib.hid hpse; replace hps := Lib.hid hps; replace hle := Lib.hid hle; replace hi3 := Lib.hid hi3; replace hz3 := Lib.hid hz3; replace hz31 := Lib.hid hz31; replace hz32 := Lib.hid hz32; replace hm9 := Lib.hid hm9
  go_enter Tryz.func132, Tryz.ntmps132
  go_wp2_with fail
  refine hsp.out.mono ?_
  rintro e w1 ⟨so, n, c, rfl, hnc, hrow, hz9, hb1⟩
  have hnL : n = L := by rw [← hrow.len, List.length_map, hps.out]
  subst hnL
  replace hb1 := Lib.hid hb1; replace hrow := Lib.hid hrow; replace hnc := Lib.hid hnc; replace hz9 := Lib.hid hz9
  go_wp2
  go_loopw [4, 6, 7, 8, 9] (fun ov i _ _ _ wr => ∃ (k : Nat) (rest : List (List UInt8)) (done : List Int), i = .int .i64 k ∧ k ≤ n ∧ Hid (rest = ps.drop k) ∧ Hid (NmW w1 ps rest done ov wr)) (fun _ i _ _ _ _ => n - (intOf i).toNat)
  case atStart => exact ⟨0, ps, [], rfl, Nat.zero_le _, rfl, NmW.start (Below.refl _ _)⟩
  case round =>
    obtain ⟨k, rest, done, rfl, hk, hrest, hM⟩ := hrel
    by_cases hc : k < n
    · have hc1 : (k : Int) < n := by omega
      have hk0 : (0 : Int) ≤ (k : Int) := by omega
      have hkl : k < ps.length := by rw [← hps.out]; exact hc
      obtain ⟨p, hp⟩ : ∃ p, ps[k]? = some p := ⟨_, List.getElem?_eq_getElem hkl⟩
      have hdr : rest = p :: ps.drop (k + 1) := by
        rw [hrest.out, List.drop_eq_getElem_cons hkl]
        rw [List.getElem?_eq_getElem hkl] at hp
        rw [Option.some.inj hp]
      have hM2 := hM.out
      rw [hdr] at hM2
      have hr := hrow.out.low hM2.low
      obtain ⟨b', off', rfl, _, c0⟩ := hr.cell k (ofL p) (by rw [List.getElem?_map, hp]; rfl)
      have hoz := (hz9.out _ _ rfl).1
      subst hoz
      simp only [Nat.zero_add] at c0
      have hpl := hle.out p (List.mem_of_getElem? hp)
      have hpz : (ofL p).size = p.length := ofL_size p
      have ht := hm9.out
      obtain ⟨S, hS⟩ : ∃ S, S = ofL p := ⟨_, rfl⟩
      rw [← hS] at c0 hpz
      by_cases hp0 : p = []
      · obtain ⟨m, hmm⟩ : ∃ m, m = decide (p.head? = some 45) := ⟨_, rfl⟩
        have hm0 : m = false := by rw [hmm, hp0]; rfl
        subst hm0
        obtain ⟨q, hq⟩ : ∃ q, q = if false = true then p.tail else p := ⟨_, rfl⟩
        have hqp : q = p := hq
        have hql : (ofL q).size ≤ maxLen := by rw [ofL_size, hqp]; omega
        have hcn := rnum_any (ofL q) 13 wr hql (by decide)
        obtain ⟨N, hN⟩ : ∃ N, N = numOf (ofL q) 13 := ⟨_, rfl⟩
        have hNb := numOf_13 (ofL q)
        rw [← hN] at hNb hcn
        obtain ⟨hN1, hN2⟩ := hNb
        have hon := oneN_eq hmm hq hN
        rw [hqp, ← hS] at hcn
        have z0 : S.size = 0 := by rw [hpz, hp0]; rfl
        have d0 : decide ((0 : Int) < S.size) = false := decide_eq_false (by omega)
        have d0' : decide (0 < S.size) = false := decide_eq_false (by omega)
        replace hp := Lib.hid hp; replace hdr := Lib.hid hdr; replace hM2 := Lib.hid hM2; replace hr := Lib.hid hr; replace hmm := Lib.hid hmm; replace hq := Lib.hid hq; replace hqp := Lib.hid hqp; replace hql := Lib.hid hql; replace hcn := Lib.hid hcn; replace hN := Lib.hid hN; replace hon := Lib.hid hon; replace hkl := Lib.hid hkl; replace hpl := Lib.hid hpl; replace hpz := Lib.hid hpz; replace ht := Lib.hid ht; replace hS := Lib.hid hS; replace hp0 := Lib.hid hp0; replace z0 := Lib.hid z0
        have hcn2 := hcn.out
        go_wp2_with fail
        refine hcn2.mono ?_
        rintro e w3 ⟨rfl, hb3⟩
        clear hcn2
        have hM3 := hM2.out.on hb3
        clear c0
        replace hb3 := Lib.hid hb3; replace hM3 := Lib.hid hM3
        by_cases hneg : N < 0
        · have d : decide (N < 0) = true := decide_eq_true hneg
          have hno : manyN ps = none := hM3.out.none (by rw [hon.out, if_pos hneg])
          have hlow3 := hb1.out.trans (hM3.out.low.mono hb1.out.size)
          replace hno := Lib.hid hno; replace hlow3 := Lib.hid hlow3; replace hneg := Lib.hid hneg
          go_wp2
          go_ret2
          exact ⟨hlow3.out, none, 0, 0, [], false, rfl, Nat.le_refl _, ints_none _, nofun, by rw [rowN_none (by rw [← hpse.out]; exact hno.out)]; rfl⟩
        have d : decide (N < 0) = false := decide_eq_false hneg
        have hone : oneN p = some (N) := by rw [hon.out, if_neg hneg]; rfl
        replace hone := Lib.hid hone; replace hneg := Lib.hid hneg
        obtain ⟨Ld, hLd⟩ : ∃ Ld, Ld = done.length := ⟨_, rfl⟩
        have hLk : Ld ≤ n := by rw [hLd]; have := (hM3).out.few; have := hps.out; omega
        have hownA : (w3.alloc (.cells #[.int .i64 (N)] 3 (0, 0))).ownsRow w1.heap.size 3 1 u4 Ld (intsV done) := by rw [hLd]; exact (hM3).out.own.row.alloc (.cells #[.int .i64 (N)] 3 (0, 0))
        have hnews := int_new w3 (N)
        have hone1 : ∀ u ∈ ([.int .i64 (N)] : List Value), u.oneCell' = true := by simp [Value.oneCell']
        have h63 := maxLen_ge (n := Ld) (by omega)
        have hby : (Ld + 1) * 8 ≤ 140737488355328 := by omega
        have hbas : w1.heap.size ≤ (w3.alloc (.cells #[.int .i64 (N)] 3 (0, 0))).heap.size := by have := (hM3).out.low.size; simp; omega
        replace hLd := Lib.hid hLd; replace hownA := Lib.hid hownA; replace hnews := Lib.hid hnews; replace hone1 := Lib.hid hone1; replace h63 := Lib.hid h63; replace hby := Lib.hid hby; replace hbas := Lib.hid hbas
        go_wp2_with (at_builtin; refine wpList_append_own _ rfl _ _ 24 rfl w1.heap.size 3 i3 _ 1 8 Tryz.underlying24 hi3.out hz3.out hz31.out hz32.out rfl (by decide) _ Ld _ rfl hownA.out ⟨(w3).heap.size, 0, none⟩ 1 1 [.int .i64 (N)] rfl rfl hnews.out hone1.out h63.out hby.out hbas.out ?_; intro v1 w7 hown7 hgrow _; obtain ⟨g7, cap1, rfl⟩ := Joins.ownsRow_form hown7 (by omega); replace hown7 := Lib.hid hown7; replace hgrow := Lib.hid hgrow)
        have hO7 : OwnI w7 w1.heap.size (.slice (some ⟨g7, 0, none⟩) (Ld + 1) cap1) (done ++ [N]) := by
          refine ⟨?_⟩
          rw [List.length_append, ← hLd.out]
          simpa [intsV] using hown7.out
        have hB7 : Below w1.heap.size w1 w7 := ((hM3).out.low.alloc (hM3).out.low.size _).grown hgrow.out hbas.out (fun k hk => ((hM3).out.own.row.lt k hk).1)
        have hM7 := (hM3).out.step hone.out hO7 hB7
        replace hO7 := Lib.hid hO7; replace hB7 := Lib.hid hB7; replace hM7 := Lib.hid hM7
        go_wp2
        go_roundw
        case rel => exact ⟨k + 1, ps.drop (k + 1), done ++ [N], by go_num, by omega, rfl, hM7.out⟩
        case measure => simp [intOf]; omega
      obtain ⟨c1, r, hcr⟩ : ∃ c1 r, p = c1 :: r := by
        cases p with
        | nil => exact absurd rfl hp0
        | cons a b => exact ⟨a, b, rfl⟩
      have hpos : 0 < S.size := by rw [hpz, hcr]; simp
      have d0 : decide ((0 : Int) < S.size) = true := decide_eq_true (by omega)
      have d0' : decide (0 < S.size) = true := decide_eq_true hpos
      have hix : ∀ w, (Instr.index 9 (.string S) (.int .i64 0)).run Tryz.prog w = .ok (.int .u8 (chz S 0)) w := fun w => index_at Tryz.underlying9 S 0 0 rfl hpos w
      obtain ⟨cz, hcz⟩ : ∃ cz, cz = chz S 0 := ⟨_, rfl⟩
      have hczv : chz S 0 = (c1.toNat : Int) := by rw [hS, hcr]; rfl
      rw [← hcz] at hix
      by_cases h45 : c1 = 45
      · have d1 : (cz == 45) = true := by rw [hcz, hczv, h45]; rfl
        obtain ⟨m, hmm⟩ : ∃ m, m = decide (p.head? = some 45) := ⟨_, rfl⟩
        have hm0 : m = true := by rw [hmm, hcr, h45]; rfl
        subst hm0
        obtain ⟨q, hq⟩ : ∃ q, q = if true = true then p.tail else p := ⟨_, rfl⟩
        have hqp : q = p.tail := hq
        have hql : (ofL q).size ≤ maxLen := by rw [ofL_size, hqp, List.length_tail]; omega
        have hcn := rnum_any (ofL q) 13 wr hql (by decide)
        obtain ⟨N, hN⟩ : ∃ N, N = numOf (ofL q) 13 := ⟨_, rfl⟩
        have hNb := numOf_13 (ofL q)
        rw [← hN] at hNb hcn
        obtain ⟨hN1, hN2⟩ := hNb
        have hon := oneN_eq hmm hq hN
        have hse : ∀ w, (Instr.slice 9 (.string S) (some (.int .i64 1)) none none).run Tryz.prog w = .ok (.string (ofL q)) w := fun w => by
          rw [run_slice_string_from_if w 9 S .i64 1 Tryz.underlying9, if_pos ⟨by omega, by omega⟩]
          congr 2
          exact toL_inj (by rw [ofL_toL, Lib.extract_to_end, hS, ofL_toL, hqp]; simp)
        replace hp := Lib.hid hp; replace hdr := Lib.hid hdr; replace hM2 := Lib.hid hM2; replace hr := Lib.hid hr; replace hmm := Lib.hid hmm; replace hq := Lib.hid hq; replace hqp := Lib.hid hqp; replace hql := Lib.hid hql; replace hcn := Lib.hid hcn; replace hN := Lib.hid hN; replace hon := Lib.hid hon; replace hkl := Lib.hid hkl; replace hpl := Lib.hid hpl; replace hpz := Lib.hid hpz; replace ht := Lib.hid ht; replace hS := Lib.hid hS; replace hp0 := Lib.hid hp0; replace hcr := Lib.hid hcr; replace hcz := Lib.hid hcz; replace hczv := Lib.hid hczv; replace h45 := Lib.hid h45
        have hcn2 := hcn.out
        go_wp2_with fail
        refine hcn2.mono ?_
        rintro e w3 ⟨rfl, hb3⟩
        clear hcn2
        have hM3 := hM2.out.on hb3
        clear c0
        replace hb3 := Lib.hid hb3; replace hM3 := Lib.hid hM3
        by_cases hneg : N < 0
        · have d : decide (N < 0) = true := decide_eq_true hneg
          have hno : manyN ps = none := hM3.out.none (by rw [hon.out, if_pos hneg])
          have hlow3 := hb1.out.trans (hM3.out.low.mono hb1.out.size)
          replace hno := Lib.hid hno; replace hlow3 := Lib.hid hlow3; replace hneg := Lib.hid hneg
          go_wp2
          go_ret2
          exact ⟨hlow3.out, none, 0, 0, [], false, rfl, Nat.le_refl _, ints_none _, nofun, by rw [rowN_none (by rw [← hpse.out]; exact hno.out)]; rfl⟩
        have d : decide (N < 0) = false := decide_eq_false hneg
        have hone : oneN p = some (-N) := by rw [hon.out, if_neg hneg]; rfl
        replace hone := Lib.hid hone; replace hneg := Lib.hid hneg
        obtain ⟨Ld, hLd⟩ : ∃ Ld, Ld = done.length := ⟨_, rfl⟩
        have hLk : Ld ≤ n := by rw [hLd]; have := (hM3).out.few; have := hps.out; omega
        have hownA : (w3.alloc (.cells #[.int .i64 (-N)] 3 (0, 0))).ownsRow w1.heap.size 3 1 u4 Ld (intsV done) := by rw [hLd]; exact (hM3).out.own.row.alloc (.cells #[.int .i64 (-N)] 3 (0, 0))
        have hnews := int_new w3 (-N)
        have hone1 : ∀ u ∈ ([.int .i64 (-N)] : List Value), u.oneCell' = true := by simp [Value.oneCell']
        have h63 := maxLen_ge (n := Ld) (by omega)
        have hby : (Ld + 1) * 8 ≤ 140737488355328 := by omega
        have hbas : w1.heap.size ≤ (w3.alloc (.cells #[.int .i64 (-N)] 3 (0, 0))).heap.size := by have := (hM3).out.low.size; simp; omega
        replace hLd := Lib.hid hLd; replace hownA := Lib.hid hownA; replace hnews := Lib.hid hnews; replace hone1 := Lib.hid hone1; replace h63 := Lib.hid h63; replace hby := Lib.hid hby; replace hbas := Lib.hid hbas
        go_wp2_with (at_builtin; refine wpList_append_own _ rfl _ _ 24 rfl w1.heap.size 3 i3 _ 1 8 Tryz.underlying24 hi3.out hz3.out hz31.out hz32.out rfl (by decide) _ Ld _ rfl hownA.out ⟨(w3).heap.size, 0, none⟩ 1 1 [.int .i64 (-N)] rfl rfl hnews.out hone1.out h63.out hby.out hbas.out ?_; intro v1 w7 hown7 hgrow _; obtain ⟨g7, cap1, rfl⟩ := Joins.ownsRow_form hown7 (by omega); replace hown7 := Lib.hid hown7; replace hgrow := Lib.hid hgrow)
        have hO7 : OwnI w7 w1.heap.size (.slice (some ⟨g7, 0, none⟩) (Ld + 1) cap1) (done ++ [-N]) := by
          refine ⟨?_⟩
          rw [List.length_append, ← hLd.out]
          simpa [intsV] using hown7.out
        have hB7 : Below w1.heap.size w1 w7 := ((hM3).out.low.alloc (hM3).out.low.size _).grown hgrow.out hbas.out (fun k hk => ((hM3).out.own.row.lt k hk).1)
        have hM7 := (hM3).out.step hone.out hO7 hB7
        replace hO7 := Lib.hid hO7; replace hB7 := Lib.hid hB7; replace hM7 := Lib.hid hM7
        go_wp2
        go_roundw
        case rel => exact ⟨k + 1, ps.drop (k + 1), done ++ [-N], by go_num, by omega, rfl, hM7.out⟩
        case measure => simp [intOf]; omega
      · have d1 : (cz == 45) = false := by
          rw [hcz, hczv]
          simp only [beq_eq_false_iff_ne]
          intro e
          exact h45 (UInt8.toNat_inj.1 (by have : (45 : UInt8).toNat = 45 := rfl; omega))
        obtain ⟨m, hmm⟩ : ∃ m, m = decide (p.head? = some 45) := ⟨_, rfl⟩
        have hm0 : m = false := by rw [hmm, hcr]; simp [h45]
        subst hm0
        obtain ⟨q, hq⟩ : ∃ q, q = if false = true then p.tail else p := ⟨_, rfl⟩
        have hqp : q = p := hq
        have hql : (ofL q).size ≤ maxLen := by rw [ofL_size, hqp]; omega
        have hcn := rnum_any (ofL q) 13 wr hql (by decide)
        obtain ⟨N, hN⟩ : ∃ N, N = numOf (ofL q) 13 := ⟨_, rfl⟩
        have hNb := numOf_13 (ofL q)
        rw [← hN] at hNb hcn
        obtain ⟨hN1, hN2⟩ := hNb
        have hon := oneN_eq hmm hq hN
        rw [hqp, ← hS] at hcn
        replace hp := Lib.hid hp; replace hdr := Lib.hid hdr; replace hM2 := Lib.hid hM2; replace hr := Lib.hid hr; replace hmm := Lib.hid hmm; replace hq := Lib.hid hq; replace hqp := Lib.hid hqp; replace hql := Lib.hid hql; replace hcn := Lib.hid hcn; replace hN := Lib.hid hN; replace hon := Lib.hid hon; replace hkl := Lib.hid hkl; replace hpl := Lib.hid hpl; replace hpz := Lib.hid hpz; replace ht := Lib.hid ht; replace hS := Lib.hid hS; replace hp0 := Lib.hid hp0; replace hcr := Lib.hid hcr; replace hcz := Lib.hid hcz; replace hczv := Lib.hid hczv; replace h45 := Lib.hid h45
        have hcn2 := hcn.out
        go_wp2_with fail
        refine hcn2.mono ?_
        rintro e w3 ⟨rfl, hb3⟩
        clear hcn2
        have hM3 := hM2.out.on hb3
        clear c0
        replace hb3 := Lib.hid hb3; replace hM3 := Lib.hid hM3
        by_cases hneg : N < 0
        · have d : decide (N < 0) = true := decide_eq_true hneg
          have hno : manyN ps = none := hM3.out.none (by rw [hon.out, if_pos hneg])
          have hlow3 := hb1.out.trans (hM3.out.low.mono hb1.out.size)
          replace hno := Lib.hid hno; replace hlow3 := Lib.hid hlow3; replace hneg := Lib.hid hneg
          go_wp2
          go_ret2
          exact ⟨hlow3.out, none, 0, 0, [], false, rfl, Nat.le_refl _, ints_none _, nofun, by rw [rowN_none (by rw [← hpse.out]; exact hno.out)]; rfl⟩
        have d : decide (N < 0) = false := decide_eq_false hneg
        have hone : oneN p = some (N) := by rw [hon.out, if_neg hneg]; rfl
        replace hone := Lib.hid hone; replace hneg := Lib.hid hneg
        obtain ⟨Ld, hLd⟩ : ∃ Ld, Ld = done.length := ⟨_, rfl⟩
        have hLk : Ld ≤ n := by rw [hLd]; have := (hM3).out.few; have := hps.out; omega
        have hownA : (w3.alloc (.cells #[.int .i64 (N)] 3 (0, 0))).ownsRow w1.heap.size 3 1 u4 Ld (intsV done) := by rw [hLd]; exact (hM3).out.own.row.alloc (.cells #[.int .i64 (N)] 3 (0, 0))
        have hnews := int_new w3 (N)
        have hone1 : ∀ u ∈ ([.int .i64 (N)] : List Value), u.oneCell' = true := by simp [Value.oneCell']
        have h63 := maxLen_ge (n := Ld) (by omega)
        have hby : (Ld + 1) * 8 ≤ 140737488355328 := by omega
        have hbas : w1.heap.size ≤ (w3.alloc (.cells #[.int .i64 (N)] 3 (0, 0))).heap.size := by have := (hM3).out.low.size; simp; omega
        replace hLd := Lib.hid hLd; replace hownA := Lib.hid hownA; replace hnews := Lib.hid hnews; replace hone1 := Lib.hid hone1; replace h63 := Lib.hid h63; replace hby := Lib.hid hby; replace hbas := Lib.hid hbas
        go_wp2_with (at_builtin; refine wpList_append_own _ rfl _ _ 24 rfl w1.heap.size 3 i3 _ 1 8 Tryz.underlying24 hi3.out hz3.out hz31.out hz32.out rfl (by decide) _ Ld _ rfl hownA.out ⟨(w3).heap.size, 0, none⟩ 1 1 [.int .i64 (N)] rfl rfl hnews.out hone1.out h63.out hby.out hbas.out ?_; intro v1 w7 hown7 hgrow _; obtain ⟨g7, cap1, rfl⟩ := Joins.ownsRow_form hown7 (by omega); replace hown7 := Lib.hid hown7; replace hgrow := Lib.hid hgrow)
        have hO7 : OwnI w7 w1.heap.size (.slice (some ⟨g7, 0, none⟩) (Ld + 1) cap1) (done ++ [N]) := by
          refine ⟨?_⟩
          rw [List.length_append, ← hLd.out]
          simpa [intsV] using hown7.out
        have hB7 : Below w1.heap.size w1 w7 := ((hM3).out.low.alloc (hM3).out.low.size _).grown hgrow.out hbas.out (fun k hk => ((hM3).out.own.row.lt k hk).1)
        have hM7 := (hM3).out.step hone.out hO7 hB7
        replace hO7 := Lib.hid hO7; replace hB7 := Lib.hid hB7; replace hM7 := Lib.hid hM7
        go_wp2
        go_roundw
        case rel => exact ⟨k + 1, ps.drop (k + 1), done ++ [N], by go_num, by omega, rfl, hM7.out⟩
        case measure => simp [intOf]; omega
    · have hc1 : ¬ (k : Int) < n := by omega
      have hkL : k = n := by omega
      have hM2 := hM.out
      have hr0 : rest = [] := by rw [hrest.out, hkL, hps.out, List.drop_length]
      rw [hr0] at hM2
      have hall := hM2.all
      obtain ⟨so2, n2, c2, e, hnc2, hi, hfr⟩ := ownI_form hM2.own
      have hfr2 : ∀ b o, so2 = some ⟨b, o, none⟩ → w.heap.size ≤ b ∧ b < wr.heap.size := fun b o e => ⟨Nat.le_trans hb1.out.size (hfr b o e).1, (hfr b o e).2⟩
      clear hfr
      subst e
      have hca := after_any so2 n2 c2 done wr hi hnc2
      obtain ⟨b, hb⟩ : ∃ b, b = waitsL done := ⟨_, rfl⟩
      rw [← hb] at hca
      have hlow := hb1.out.trans (hM2.low.mono hb1.out.size)
      replace hM2 := Lib.hid hM2; replace hr0 := Lib.hid hr0; replace hall := Lib.hid hall; replace hlow := Lib.hid hlow; replace hi := Lib.hid hi; replace hkL := Lib.hid hkL; replace hnc2 := Lib.hid hnc2; replace hM := Lib.hid hM; replace hca := Lib.hid hca; replace hb := Lib.hid hb; replace hfr2 := Lib.hid hfr2
      go_wp2_with fail
      refine hca.out.mono ?_
      rintro e w5 ⟨rfl, hb5⟩
      replace hb5 := Lib.hid hb5
      go_wp2
      go_ret2
      exact ⟨hlow.out.trans (hb5.out.mono hlow.out.size), so2, n2, c2, done, b, rfl, hnc2.out, hi.out.low hb5.out, (fun b o e => ⟨(hfr2.out b o e).1, Nat.lt_of_lt_of_le (hfr2.out b o e).2 hb5.out.size⟩), rowN_yes (by rw [← hpse.out]; exact hall.out) hb.out⟩
end Go.Proofs.YteoihdkaoipocaaGreatDoor

/- corveeref08.keys, key: a word's key. -/
namespace Go.Proofs.YteoihdkaoipocaaGreatDoor
open Go.RowKit Go.Maps Go.Shelf Go.Sort

theorem keys_any (w : World) : Calls Tryz.prog 130 #[] w fun e w' => e = .returned (.slice (some ⟨w.heap.size, 0, none⟩) 10 10) ∧ w' = w.alloc (.cells (keysL.map Value.string).toArray 9 (0, 0)) := by
  go_enter Tryz.func130, Tryz.ntmps130
  go_wp2
  go_ret
  exact ⟨rfl, rfl⟩
/-- a word's key by its number, and its value -/
def KeyPost (s : ByteArray) (w : World) (e : Ending) (w' : World) : Prop :=
  Below w.heap.size w w' ∧ ((e = .returned (.tuple #[.int .i64 (-1), .string { data := #[] }]) ∧ (keyVal s = none ∨ ∃ k v, keyVal s = some (k, v) ∧ k ∉ keysL)) ∨
    ∃ (j : Nat) (k v : ByteArray), e = .returned (.tuple #[.int .i64 j, .string v]) ∧ keysL[j]? = some k ∧ keyVal s = some (k, v) ∧ v.size ≤ s.size)
theorem keyVal_at {s : ByteArray} {k : Nat} (hn : (61 : UInt8) ∉ s.data.toList.take k) (hk : s.data.toList[k]? = some 61) : keyVal s = some (ofL (s.data.toList.take k), ofL (s.data.toList.drop (k + 1))) := by
  have e : s.data.toList = s.data.toList.take k ++ 61 :: s.data.toList.drop (k + 1) := by
    have hl := (List.getElem?_eq_some_iff.1 hk).1
    conv => lhs; rw [← List.take_append_drop k s.data.toList]
    rw [List.drop_eq_getElem_cons hl, (List.getElem?_eq_some_iff.1 hk).2]
  unfold keyVal
  rw [show Lib.cut s.data.toList [61] = (s.data.toList.take k, s.data.toList.drop (k + 1), true) from by
    conv => lhs; rw [e]
    exact cut_hit hn]
  rfl
theorem keyVal_no {s : ByteArray} (hn : (61 : UInt8) ∉ s.data.toList) : keyVal s = none := by
  unfold keyVal
  rw [cut_no hn]
  rfl
set_option maxRecDepth 100000 in
set_option maxHeartbeats 1600000 in
theorem rkey_any (s : ByteArray) (w : World) (hs : s.size ≤ 4294967200) : Calls Tryz.prog 114 #[.string s] w (KeyPost s w) := by
  have hix : ∀ (k : Nat), k < s.size → ∀ w, (Instr.index 9 (.string s) (.int .i64 (k : Int))).run Tryz.prog w = .ok (.int .u8 (chz s k)) w := fun k hk w => index_at Tryz.underlying9 s k k rfl hk w
  have hsl : ∀ (k : Nat), k ≤ s.size → ∀ w, (Instr.slice 9 (.string s) none (some (.int .i64 (k : Int))) none).run Tryz.prog w = .ok (.string (ofL (s.data.toList.take k))) w := fun k h2 w => by
    rw [run_slice_string_to_if w 9 s .i64 k Tryz.underlying9, if_pos ⟨by omega, by omega⟩]
    congr 2
    exact toL_inj (by rw [ofL_toL]; exact Lib.extract_from_zero _ _)
  have hse : ∀ (f : Nat), f ≤ s.size → ∀ w, (Instr.slice 9 (.string s) (some (.int .i64 (f : Int))) none none).run Tryz.prog w = .ok (.string (ofL (s.data.toList.drop f))) w := fun f h1 w => by
    rw [run_slice_string_from_if w 9 s .i64 f Tryz.underlying9, if_pos ⟨by omega, by omega⟩]
    congr 2
    exact toL_inj (by rw [ofL_toL, Lib.extract_to_end]; rfl)
  replace hix := Lib.hid hix; replace hsl := Lib.hid hsl; replace hse := Lib.hid hse
  go_enter Tryz.func114, Tryz.ntmps114
  go_wp2
  go_loopw [4, 5, 6] (fun i _ _ wr => ∃ k : Nat, i = .int .i64 k ∧ k ≤ s.size ∧ Hid ((61 : UInt8) ∉ s.data.toList.take k) ∧ Hid (wr = w)) (fun i _ _ _ => s.size - (intOf i).toNat)
  case atStart => exact ⟨0, rfl, Nat.zero_le _, by simp [Hid], rfl⟩
  case round =>
    obtain ⟨k, rfl, hk, hno, hw⟩ := hrel
    have hw2 := hw.out.symm
    subst hw2
    by_cases hc : k < s.size
    · have hc1 : (k : Int) < s.size := by omega
      have hi1 := hix.out k hc
      have hq := chz_eq s k hc 61
      obtain ⟨c, hcv⟩ : ∃ c, c = chz s k := ⟨_, rfl⟩
      rw [← hcv] at hi1 hq
      by_cases he : s.data.toList[k]? = some 61
      · have d0 : (c == 61) = true := by rw [show (61 : Int) = (((61 : UInt8).toNat : Nat) : Int) from rfl, hq]; exact decide_eq_true he
        have d : (c != 61) = false := by simp only [bne, d0]; rfl
        have hkv := keyVal_at hno.out he
        have hsl1 := hsl.out k (by omega)
        have hse1 := hse.out (k + 1) (by omega)
        have hse2 : ∀ w, (Instr.slice 9 (.string s) (some (.int .i64 ((k : Int) + 1))) none none).run Tryz.prog w = .ok (.string (ofL (s.data.toList.drop (k + 1)))) w := hse1
        clear hse1
        obtain ⟨key, hkey⟩ : ∃ key, key = ofL (s.data.toList.take k) := ⟨_, rfl⟩
        obtain ⟨v, hv⟩ : ∃ v, v = ofL (s.data.toList.drop (k + 1)) := ⟨_, rfl⟩
        have hvz : v.size ≤ s.size := by rw [hv, ofL_size, List.length_drop, toL_len]; omega
        rw [← hkey] at hsl1 hkv
        rw [← hv] at hse2 hkv
        have hka := keys_any w
        replace hcv := Lib.hid hcv; replace hq := Lib.hid hq; replace he := Lib.hid he; replace hkv := Lib.hid hkv; replace hkey := Lib.hid hkey; replace hv := Lib.hid hv; replace hka := Lib.hid hka; replace hvz := Lib.hid hvz
        go_wp2_with fail
        refine hka.out.mono ?_
        rintro e w1 ⟨rfl, hw1⟩
        have hb1 : Below w.heap.size w w1 := by rw [hw1]; exact (Below.refl _ _).alloc (Nat.le_refl _) _
        have hrow : w1.heap[w.heap.size]? = some (.cells (keysL.map Value.string).toArray 9 (0, 0)) := by rw [hw1]; exact blk_new _ _
        replace hw1 := Lib.hid hw1; replace hb1 := Lib.hid hb1; replace hrow := Lib.hid hrow
        go_wp2
        go_loopw [6] (fun i wq => ∃ j : Nat, i = .int .i64 j ∧ j ≤ 10 ∧ Hid (∀ m, m < j → keysL[m]? ≠ some key) ∧ Hid (Below w1.heap.size w1 wq)) (fun i _ => 10 - (intOf i).toNat)
        case atStart => exact ⟨0, rfl, Nat.zero_le _, (fun m h => absurd h (Nat.not_lt_zero _)), Below.refl _ _⟩
        case round =>
          obtain ⟨j, rfl, hj, hne, hB⟩ := hrel
          have hlow := hb1.out.trans (hB.out.mono hb1.out.size)
          by_cases hj1 : j < 10
          · have hj2 : (j : Int) < 10 := by omega
            have hj0 : (0 : Int) ≤ (j : Int) := by omega
            obtain ⟨kj, hkj⟩ : ∃ kj, keysL[j]? = some kj := ⟨_, List.getElem?_eq_getElem hj1⟩
            have hrow2 := blk_below hB.out hrow.out (blk_lt hrow.out)
            have c0 : w.heap.size < wr.heap.size := blk_lt hrow2
            have c1 : wr.cell? ⟨w.heap.size, j, none⟩ = some (.string kj) := by rw [blk_cell hrow2]; simp [hkj]
            by_cases q : kj = key
            · have d9 := str_eq q
              have hfin : keysL[j]? = some key := by rw [hkj, q]
              replace hkj := Lib.hid hkj; replace hrow2 := Lib.hid hrow2; replace q := Lib.hid q; replace hfin := Lib.hid hfin; replace hlow := Lib.hid hlow
              go_wp2
              go_quiet (fail)
              go_wp2
              go_quiet (fail)
              go_wp2
              go_ret2
              exact ⟨⟨hlow.out.os, hlow.out.tape, hlow.out.output, hlow.out.size, hlow.out.block⟩, .inr ⟨j, key, v, rfl, hfin.out, hkv.out, hvz.out⟩⟩
            · have d9 := str_ne q
              have hne2 : ∀ m, m < j + 1 → keysL[m]? ≠ some key := fun m hm e => by
                by_cases c : m = j
                · subst c; rw [hkj] at e; exact q (Option.some.inj e)
                · exact hne.out m (by omega) e
              replace hkj := Lib.hid hkj; replace hrow2 := Lib.hid hrow2; replace q := Lib.hid q; replace hne2 := Lib.hid hne2; replace hlow := Lib.hid hlow
              go_wp2
              go_quiet (fail)
              go_wp2
              go_roundw
              case rel => exact ⟨j + 1, by go_num, by omega, hne2.out, ⟨hB.out.os, hB.out.tape, hB.out.output, hB.out.size, hB.out.block⟩⟩
              case measure => simp [intOf]; omega
          · have hj2 : ¬ (j : Int) < 10 := by omega
            have hj10 : j = 10 := by omega
            have hnm : key ∉ keysL := fun h => by
              obtain ⟨m, hm, e⟩ := List.mem_iff_getElem.1 h
              have hm10 : m < 10 := hm
              exact hne.out m (by omega) (by rw [List.getElem?_eq_getElem hm, e])
            replace hnm := Lib.hid hnm; replace hlow := Lib.hid hlow
            go_wp2
            go_ret2
            exact ⟨hlow.out, .inl ⟨rfl, .inr ⟨key, v, hkv.out, hnm.out⟩⟩⟩
      · have d0 : (c == 61) = false := by rw [show (61 : Int) = (((61 : UInt8).toNat : Nat) : Int) from rfl, hq]; exact decide_eq_false he
        have d : (c != 61) = true := by simp only [bne, d0]; rfl
        have hno2 : (61 : UInt8) ∉ s.data.toList.take (k + 1) := by
          obtain ⟨y, hy⟩ : ∃ y, s.data.toList[k]? = some y := ⟨_, List.getElem?_eq_getElem hc⟩
          rw [List.take_add_one, hy]
          intro h
          rcases List.mem_append.1 h with h | h
          · exact hno.out h
          · have : y = 61 := (show (61 : UInt8) = y by simpa using h).symm
            rw [this] at hy; exact he hy
        replace hcv := Lib.hid hcv; replace hq := Lib.hid hq; replace he := Lib.hid he; replace hno2 := Lib.hid hno2
        go_wp2
        go_roundw
        case rel => exact ⟨k + 1, by go_num, by omega, hno2.out, trivial⟩
        case measure => simp [intOf]; omega
    · have hc1 : ¬ (k : Int) < s.size := by omega
      have hn : keyVal s = none := keyVal_no (by have := hno.out; rwa [List.take_of_length_le (by rw [toL_len]; omega)] at this)
      replace hn := Lib.hid hn
      go_wp2
      go_ret2
      exact ⟨Below.refl _ _, .inl ⟨rfl, .inl hn.out⟩⟩
end Go.Proofs.YteoihdkaoipocaaGreatDoor

/- corveeref08.set: a field set, as the document tells it. -/
namespace Go.Proofs.YteoihdkaoipocaaGreatDoor
open Go.RowKit Go.Maps Go.Shelf Go.Sort

def RsetPost (x : Spv) (k v : ByteArray) (w : World) (e : Ending) (w' : World) : Prop :=
  ∃ (x' : Spv) (b : Bool), e = .returned (.tuple #[x'.val, .bool b]) ∧ Below w.heap.size w w' ∧ setP k v x.pl = (if b = true then some x'.pl else none) ∧ (b = true → x'.ok w') ∧ (x'.so = x.so ∨ ∀ b o, x'.so = some ⟨b, o, none⟩ → w.heap.size ≤ b ∧ b < w'.heap.size)
def BW (w : World) (x : Spv) : World := (w.alloc (.cells x.cells 26 (0, 0))).alloc (.cells Spv.zero.cells 26 (0, 0))
structure RsW (w : World) (x : Spv) (W : World) : Prop where
  low : Below w.heap.size w W
  box : W.heap[w.heap.size]? = some (.cells x.cells 26 (0, 0))
  res : W.heap[w.heap.size + 1]? = some (.cells Spv.zero.cells 26 (0, 0))
theorem RsW.new (w : World) (x : Spv) : RsW w x (BW w x) := ⟨((Below.refl _ _).alloc (Nat.le_refl _) _).alloc (by simp) _, blk_old _ (blk_new _ _), blk_at _ _ (by simp)⟩
theorem RsW.on {w W W' : World} {x : Spv} (h : RsW w x W) (hb : Below W.heap.size W W') : RsW w x W' := ⟨h.low.trans (hb.mono h.low.size), blk_below hb h.box (blk_lt h.box), blk_below hb h.res (blk_lt h.res)⟩
theorem RsW.set {w W : World} {x x' : Spv} (h : RsW w x W) (o : Nat) (v : Value) (e : x.cells.setIfInBounds o v = x'.cells) : RsW w x' (W.setCell ⟨w.heap.size, o, none⟩ v) :=
  ⟨h.low.setCell (Nat.le_refl _) _, by rw [← e]; exact blk_set h.box o v, blk_set_other (by omega) _ h.res⟩
theorem rlow13 {w W : World} (h : Below w.heap.size w W) (v0 v1 v2 v3 v4 v5 v6 v7 v8 v9 v10 v11 v12 : Value) : Below w.heap.size w (((((((((((((W.setCell ⟨w.heap.size + 1, 0, none⟩ v0).setCell ⟨w.heap.size + 1, 1, none⟩ v1).setCell ⟨w.heap.size + 1, 2, none⟩ v2).setCell ⟨w.heap.size + 1, 3, none⟩ v3).setCell ⟨w.heap.size + 1, 4, none⟩ v4).setCell ⟨w.heap.size + 1, 5, none⟩ v5).setCell ⟨w.heap.size + 1, 6, none⟩ v6).setCell ⟨w.heap.size + 1, 7, none⟩ v7).setCell ⟨w.heap.size + 1, 8, none⟩ v8).setCell ⟨w.heap.size + 1, 9, none⟩ v9).setCell ⟨w.heap.size + 1, 10, none⟩ v10).setCell ⟨w.heap.size + 1, 11, none⟩ v11).setCell ⟨w.heap.size + 1, 12, none⟩ v12) :=
  ((((((((((((h.setCell (Nat.le_succ _) _).setCell (Nat.le_succ _) _).setCell (Nat.le_succ _) _).setCell (Nat.le_succ _) _).setCell (Nat.le_succ _) _).setCell (Nat.le_succ _) _).setCell (Nat.le_succ _) _).setCell (Nat.le_succ _) _).setCell (Nat.le_succ _) _).setCell (Nat.le_succ _) _).setCell (Nat.le_succ _) _).setCell (Nat.le_succ _) _).setCell (Nat.le_succ _) _
theorem rgb13 (w W : World) (v0 v1 v2 v3 v4 v5 v6 v7 v8 v9 v10 v11 v12 : Value) : W.grownBy (((((((((((((W.setCell ⟨w.heap.size + 1, 0, none⟩ v0).setCell ⟨w.heap.size + 1, 1, none⟩ v1).setCell ⟨w.heap.size + 1, 2, none⟩ v2).setCell ⟨w.heap.size + 1, 3, none⟩ v3).setCell ⟨w.heap.size + 1, 4, none⟩ v4).setCell ⟨w.heap.size + 1, 5, none⟩ v5).setCell ⟨w.heap.size + 1, 6, none⟩ v6).setCell ⟨w.heap.size + 1, 7, none⟩ v7).setCell ⟨w.heap.size + 1, 8, none⟩ v8).setCell ⟨w.heap.size + 1, 9, none⟩ v9).setCell ⟨w.heap.size + 1, 10, none⟩ v10).setCell ⟨w.heap.size + 1, 11, none⟩ v11).setCell ⟨w.heap.size + 1, 12, none⟩ v12) (some (w.heap.size + 1)) :=
  gb_set (gb_set (gb_set (gb_set (gb_set (gb_set (gb_set (gb_set (gb_set (gb_set (gb_set (gb_set (gb_set (gb_refl W _) _) _) _) _) _) _) _) _) _) _) _) _) _
set_option maxRecDepth 100000 in
set_option maxHeartbeats 3200000 in
theorem rset_user (v : ByteArray) (x : Spv) (w : World) (hx : x.ok w) (hv : v.size ≤ maxLen) : Calls Tryz.prog 115 #[x.val, .int .i64 0, .string v] w (RsetPost x kUser v w) := by
  obtain ⟨⟨user, part, nodes, ⟨da, db, dc, dd⟩, wall, prio, array, retries, held, after⟩, so, n, cp⟩ := x
  have hR := RsW.new w ⟨⟨v, part, nodes, ⟨da, db, dc, dd⟩, wall, prio, array, retries, held, after⟩, so, n, cp⟩
  have hcn := rname_any v (BW w ⟨⟨v, part, nodes, ⟨da, db, dc, dd⟩, wall, prio, array, retries, held, after⟩, so, n, cp⟩) hv
  obtain ⟨b, hb⟩ : ∃ b, b = isName v := ⟨_, rfl⟩
  rw [← hb] at hcn
  have hz : setP kUser v ⟨user, part, nodes, ⟨da, db, dc, dd⟩, wall, prio, array, retries, held, after⟩ = if b = true then some ⟨v, part, nodes, ⟨da, db, dc, dd⟩, wall, prio, array, retries, held, after⟩ else none := by rw [hb]; rfl
  replace hR := Lib.hid hR; replace hcn := Lib.hid hcn; replace hb := Lib.hid hb; replace hz := Lib.hid hz; replace hx := Lib.hid hx; replace hv := Lib.hid hv
  go_enter Tryz.func115, Tryz.ntmps115
  go_wp2_with fail
  refine hcn.out.mono ?_
  rintro e w2 ⟨rfl, hb2⟩
  have hR2 := hR.out.on hb2
  have y0 : w2.cell? ⟨w.heap.size, 0, none⟩ = some (.string v) := blk_cell (hR2).box 0
  have y1 : w2.cell? ⟨w.heap.size, 1, none⟩ = some (.string part) := blk_cell (hR2).box 1
  have y2 : w2.cell? ⟨w.heap.size, 2, none⟩ = some (.int .i64 nodes) := blk_cell (hR2).box 2
  have y3 : w2.cell? ⟨w.heap.size, 3, none⟩ = some (.int .i64 da) := blk_cell (hR2).box 3
  have y4 : w2.cell? ⟨w.heap.size, 4, none⟩ = some (.int .i64 db) := blk_cell (hR2).box 4
  have y5 : w2.cell? ⟨w.heap.size, 5, none⟩ = some (.int .i64 dc) := blk_cell (hR2).box 5
  have y6 : w2.cell? ⟨w.heap.size, 6, none⟩ = some (.int .i64 dd) := blk_cell (hR2).box 6
  have y7 : w2.cell? ⟨w.heap.size, 7, none⟩ = some (.int .i64 wall) := blk_cell (hR2).box 7
  have y8 : w2.cell? ⟨w.heap.size, 8, none⟩ = some (.int .i64 prio) := blk_cell (hR2).box 8
  have y9 : w2.cell? ⟨w.heap.size, 9, none⟩ = some (.int .i64 array) := blk_cell (hR2).box 9
  have y10 : w2.cell? ⟨w.heap.size, 10, none⟩ = some (.int .i64 retries) := blk_cell (hR2).box 10
  have y11 : w2.cell? ⟨w.heap.size, 11, none⟩ = some (.bool held) := blk_cell (hR2).box 11
  have y12 : w2.cell? ⟨w.heap.size, 12, none⟩ = some (.slice so n cp) := blk_cell (hR2).box 12
  have x0 : w2.cell? ⟨w.heap.size + 1, 0, none⟩ = some (.string ByteArray.empty) := blk_cell (hR2).res 0
  have x1 : w2.cell? ⟨w.heap.size + 1, 1, none⟩ = some (.string ByteArray.empty) := blk_cell (hR2).res 1
  have x2 : w2.cell? ⟨w.heap.size + 1, 2, none⟩ = some (.int .i64 0) := blk_cell (hR2).res 2
  have x3 : w2.cell? ⟨w.heap.size + 1, 3, none⟩ = some (.int .i64 0) := blk_cell (hR2).res 3
  have x4 : w2.cell? ⟨w.heap.size + 1, 4, none⟩ = some (.int .i64 0) := blk_cell (hR2).res 4
  have x5 : w2.cell? ⟨w.heap.size + 1, 5, none⟩ = some (.int .i64 0) := blk_cell (hR2).res 5
  have x6 : w2.cell? ⟨w.heap.size + 1, 6, none⟩ = some (.int .i64 0) := blk_cell (hR2).res 6
  have x7 : w2.cell? ⟨w.heap.size + 1, 7, none⟩ = some (.int .i64 0) := blk_cell (hR2).res 7
  have x8 : w2.cell? ⟨w.heap.size + 1, 8, none⟩ = some (.int .i64 0) := blk_cell (hR2).res 8
  have x9 : w2.cell? ⟨w.heap.size + 1, 9, none⟩ = some (.int .i64 0) := blk_cell (hR2).res 9
  have x10 : w2.cell? ⟨w.heap.size + 1, 10, none⟩ = some (.int .i64 0) := blk_cell (hR2).res 10
  have x11 : w2.cell? ⟨w.heap.size + 1, 11, none⟩ = some (.bool false) := blk_cell (hR2).res 11
  have x12 : w2.cell? ⟨w.heap.size + 1, 12, none⟩ = some (.slice none 0 0) := blk_cell (hR2).res 12
  have fb := blk_free (hR2).box
  have fr := blk_free (hR2).res
  replace hR2 := Lib.hid hR2; replace hb2 := Lib.hid hb2
  cases b with
  | false =>
    go_wp2
    refine bodyPost_ret (v := .tuple #[(⟨⟨v, part, nodes, ⟨da, db, dc, dd⟩, wall, prio, array, retries, held, after⟩, so, n, cp⟩ : Spv).val, .bool false]) (by simp [results, Tryz.results115, go_sem, x0, x1, x2, x3, x4, x5, x6, x7, x8, x9, x10, x11, x12]) rfl ⟨⟨⟨v, part, nodes, ⟨da, db, dc, dd⟩, wall, prio, array, retries, held, after⟩, so, n, cp⟩, false, rfl, rlow13 (hR2.out.low) _ _ _ _ _ _ _ _ _ _ _ _ _, hz.out, (fun h => by cases h), .inl rfl⟩
  | true =>
    go_wp2
    refine bodyPost_ret (v := .tuple #[(⟨⟨v, part, nodes, ⟨da, db, dc, dd⟩, wall, prio, array, retries, held, after⟩, so, n, cp⟩ : Spv).val, .bool true]) (by simp [results, Tryz.results115, go_sem, x0, x1, x2, x3, x4, x5, x6, x7, x8, x9, x10, x11, x12]) rfl ⟨⟨⟨v, part, nodes, ⟨da, db, dc, dd⟩, wall, prio, array, retries, held, after⟩, so, n, cp⟩, true, rfl, rlow13 (hR2.out.low) _ _ _ _ _ _ _ _ _ _ _ _ _, hz.out, (fun _ => ⟨hx.out.after.low (rlow13 hR2.out.low _ _ _ _ _ _ _ _ _ _ _ _ _), hx.out.ple, hv.out, hx.out.part⟩), .inl rfl⟩
set_option maxRecDepth 100000 in
set_option maxHeartbeats 3200000 in
theorem rset_part (v : ByteArray) (x : Spv) (w : World) (hx : x.ok w) (hv : v.size ≤ maxLen) : Calls Tryz.prog 115 #[x.val, .int .i64 1, .string v] w (RsetPost x kPart v w) := by
  obtain ⟨⟨user, part, nodes, ⟨da, db, dc, dd⟩, wall, prio, array, retries, held, after⟩, so, n, cp⟩ := x
  have hR := RsW.new w ⟨⟨user, v, nodes, ⟨da, db, dc, dd⟩, wall, prio, array, retries, held, after⟩, so, n, cp⟩
  have hcn := rname_any v (BW w ⟨⟨user, v, nodes, ⟨da, db, dc, dd⟩, wall, prio, array, retries, held, after⟩, so, n, cp⟩) hv
  obtain ⟨b, hb⟩ : ∃ b, b = isName v := ⟨_, rfl⟩
  rw [← hb] at hcn
  have hz : setP kPart v ⟨user, part, nodes, ⟨da, db, dc, dd⟩, wall, prio, array, retries, held, after⟩ = if b = true then some ⟨user, v, nodes, ⟨da, db, dc, dd⟩, wall, prio, array, retries, held, after⟩ else none := by rw [hb]; rfl
  replace hR := Lib.hid hR; replace hcn := Lib.hid hcn; replace hb := Lib.hid hb; replace hz := Lib.hid hz; replace hx := Lib.hid hx; replace hv := Lib.hid hv
  go_enter Tryz.func115, Tryz.ntmps115
  go_wp2_with fail
  refine hcn.out.mono ?_
  rintro e w2 ⟨rfl, hb2⟩
  have hR2 := hR.out.on hb2
  have y0 : w2.cell? ⟨w.heap.size, 0, none⟩ = some (.string user) := blk_cell (hR2).box 0
  have y1 : w2.cell? ⟨w.heap.size, 1, none⟩ = some (.string v) := blk_cell (hR2).box 1
  have y2 : w2.cell? ⟨w.heap.size, 2, none⟩ = some (.int .i64 nodes) := blk_cell (hR2).box 2
  have y3 : w2.cell? ⟨w.heap.size, 3, none⟩ = some (.int .i64 da) := blk_cell (hR2).box 3
  have y4 : w2.cell? ⟨w.heap.size, 4, none⟩ = some (.int .i64 db) := blk_cell (hR2).box 4
  have y5 : w2.cell? ⟨w.heap.size, 5, none⟩ = some (.int .i64 dc) := blk_cell (hR2).box 5
  have y6 : w2.cell? ⟨w.heap.size, 6, none⟩ = some (.int .i64 dd) := blk_cell (hR2).box 6
  have y7 : w2.cell? ⟨w.heap.size, 7, none⟩ = some (.int .i64 wall) := blk_cell (hR2).box 7
  have y8 : w2.cell? ⟨w.heap.size, 8, none⟩ = some (.int .i64 prio) := blk_cell (hR2).box 8
  have y9 : w2.cell? ⟨w.heap.size, 9, none⟩ = some (.int .i64 array) := blk_cell (hR2).box 9
  have y10 : w2.cell? ⟨w.heap.size, 10, none⟩ = some (.int .i64 retries) := blk_cell (hR2).box 10
  have y11 : w2.cell? ⟨w.heap.size, 11, none⟩ = some (.bool held) := blk_cell (hR2).box 11
  have y12 : w2.cell? ⟨w.heap.size, 12, none⟩ = some (.slice so n cp) := blk_cell (hR2).box 12
  have x0 : w2.cell? ⟨w.heap.size + 1, 0, none⟩ = some (.string ByteArray.empty) := blk_cell (hR2).res 0
  have x1 : w2.cell? ⟨w.heap.size + 1, 1, none⟩ = some (.string ByteArray.empty) := blk_cell (hR2).res 1
  have x2 : w2.cell? ⟨w.heap.size + 1, 2, none⟩ = some (.int .i64 0) := blk_cell (hR2).res 2
  have x3 : w2.cell? ⟨w.heap.size + 1, 3, none⟩ = some (.int .i64 0) := blk_cell (hR2).res 3
  have x4 : w2.cell? ⟨w.heap.size + 1, 4, none⟩ = some (.int .i64 0) := blk_cell (hR2).res 4
  have x5 : w2.cell? ⟨w.heap.size + 1, 5, none⟩ = some (.int .i64 0) := blk_cell (hR2).res 5
  have x6 : w2.cell? ⟨w.heap.size + 1, 6, none⟩ = some (.int .i64 0) := blk_cell (hR2).res 6
  have x7 : w2.cell? ⟨w.heap.size + 1, 7, none⟩ = some (.int .i64 0) := blk_cell (hR2).res 7
  have x8 : w2.cell? ⟨w.heap.size + 1, 8, none⟩ = some (.int .i64 0) := blk_cell (hR2).res 8
  have x9 : w2.cell? ⟨w.heap.size + 1, 9, none⟩ = some (.int .i64 0) := blk_cell (hR2).res 9
  have x10 : w2.cell? ⟨w.heap.size + 1, 10, none⟩ = some (.int .i64 0) := blk_cell (hR2).res 10
  have x11 : w2.cell? ⟨w.heap.size + 1, 11, none⟩ = some (.bool false) := blk_cell (hR2).res 11
  have x12 : w2.cell? ⟨w.heap.size + 1, 12, none⟩ = some (.slice none 0 0) := blk_cell (hR2).res 12
  have fb := blk_free (hR2).box
  have fr := blk_free (hR2).res
  replace hR2 := Lib.hid hR2; replace hb2 := Lib.hid hb2
  cases b with
  | false =>
    go_wp2
    refine bodyPost_ret (v := .tuple #[(⟨⟨user, v, nodes, ⟨da, db, dc, dd⟩, wall, prio, array, retries, held, after⟩, so, n, cp⟩ : Spv).val, .bool false]) (by simp [results, Tryz.results115, go_sem, x0, x1, x2, x3, x4, x5, x6, x7, x8, x9, x10, x11, x12]) rfl ⟨⟨⟨user, v, nodes, ⟨da, db, dc, dd⟩, wall, prio, array, retries, held, after⟩, so, n, cp⟩, false, rfl, rlow13 (hR2.out.low) _ _ _ _ _ _ _ _ _ _ _ _ _, hz.out, (fun h => by cases h), .inl rfl⟩
  | true =>
    go_wp2
    refine bodyPost_ret (v := .tuple #[(⟨⟨user, v, nodes, ⟨da, db, dc, dd⟩, wall, prio, array, retries, held, after⟩, so, n, cp⟩ : Spv).val, .bool true]) (by simp [results, Tryz.results115, go_sem, x0, x1, x2, x3, x4, x5, x6, x7, x8, x9, x10, x11, x12]) rfl ⟨⟨⟨user, v, nodes, ⟨da, db, dc, dd⟩, wall, prio, array, retries, held, after⟩, so, n, cp⟩, true, rfl, rlow13 (hR2.out.low) _ _ _ _ _ _ _ _ _ _ _ _ _, hz.out, (fun _ => ⟨hx.out.after.low (rlow13 hR2.out.low _ _ _ _ _ _ _ _ _ _ _ _ _), hx.out.ple, hx.out.user, hv.out⟩), .inl rfl⟩
set_option maxRecDepth 100000 in
set_option maxHeartbeats 3200000 in
theorem rset_nodes (v : ByteArray) (x : Spv) (w : World) (hx : x.ok w) (hv : v.size ≤ maxLen) : Calls Tryz.prog 115 #[x.val, .int .i64 2, .string v] w (RsetPost x kNodes v w) := by
  obtain ⟨⟨user, part, nodes, ⟨da, db, dc, dd⟩, wall, prio, array, retries, held, after⟩, so, n, cp⟩ := x
  have hR := RsW.new w ⟨⟨user, part, nodes, ⟨da, db, dc, dd⟩, wall, prio, array, retries, held, after⟩, so, n, cp⟩
  have hcn := rnumber_any v 1 16 (BW w ⟨⟨user, part, nodes, ⟨da, db, dc, dd⟩, wall, prio, array, retries, held, after⟩, so, n, cp⟩) hv
  obtain ⟨f, hf⟩ : ∃ f, f = fieldN v 1 16 := ⟨_, rfl⟩
  rw [← hf] at hcn
  cases f with
  | none =>
    have hz : setP kNodes v ⟨user, part, nodes, ⟨da, db, dc, dd⟩, wall, prio, array, retries, held, after⟩ = none := by
      show (fieldN v 1 16).map _ = none
      rw [← hf]; rfl
    simp only [Option.getD_none] at hcn
    replace hR := Lib.hid hR; replace hcn := Lib.hid hcn; replace hf := Lib.hid hf; replace hz := Lib.hid hz; replace hx := Lib.hid hx; replace hv := Lib.hid hv
    go_enter Tryz.func115, Tryz.ntmps115
    go_wp2_with fail
    refine hcn.out.mono ?_
    rintro e w2 ⟨rfl, hb2⟩
    have hR2 := hR.out.on hb2
    have y0 : w2.cell? ⟨w.heap.size, 0, none⟩ = some (.string user) := blk_cell (hR2).box 0
    have y1 : w2.cell? ⟨w.heap.size, 1, none⟩ = some (.string part) := blk_cell (hR2).box 1
    have y2 : w2.cell? ⟨w.heap.size, 2, none⟩ = some (.int .i64 nodes) := blk_cell (hR2).box 2
    have y3 : w2.cell? ⟨w.heap.size, 3, none⟩ = some (.int .i64 da) := blk_cell (hR2).box 3
    have y4 : w2.cell? ⟨w.heap.size, 4, none⟩ = some (.int .i64 db) := blk_cell (hR2).box 4
    have y5 : w2.cell? ⟨w.heap.size, 5, none⟩ = some (.int .i64 dc) := blk_cell (hR2).box 5
    have y6 : w2.cell? ⟨w.heap.size, 6, none⟩ = some (.int .i64 dd) := blk_cell (hR2).box 6
    have y7 : w2.cell? ⟨w.heap.size, 7, none⟩ = some (.int .i64 wall) := blk_cell (hR2).box 7
    have y8 : w2.cell? ⟨w.heap.size, 8, none⟩ = some (.int .i64 prio) := blk_cell (hR2).box 8
    have y9 : w2.cell? ⟨w.heap.size, 9, none⟩ = some (.int .i64 array) := blk_cell (hR2).box 9
    have y10 : w2.cell? ⟨w.heap.size, 10, none⟩ = some (.int .i64 retries) := blk_cell (hR2).box 10
    have y11 : w2.cell? ⟨w.heap.size, 11, none⟩ = some (.bool held) := blk_cell (hR2).box 11
    have y12 : w2.cell? ⟨w.heap.size, 12, none⟩ = some (.slice so n cp) := blk_cell (hR2).box 12
    have x0 : w2.cell? ⟨w.heap.size + 1, 0, none⟩ = some (.string ByteArray.empty) := blk_cell (hR2).res 0
    have x1 : w2.cell? ⟨w.heap.size + 1, 1, none⟩ = some (.string ByteArray.empty) := blk_cell (hR2).res 1
    have x2 : w2.cell? ⟨w.heap.size + 1, 2, none⟩ = some (.int .i64 0) := blk_cell (hR2).res 2
    have x3 : w2.cell? ⟨w.heap.size + 1, 3, none⟩ = some (.int .i64 0) := blk_cell (hR2).res 3
    have x4 : w2.cell? ⟨w.heap.size + 1, 4, none⟩ = some (.int .i64 0) := blk_cell (hR2).res 4
    have x5 : w2.cell? ⟨w.heap.size + 1, 5, none⟩ = some (.int .i64 0) := blk_cell (hR2).res 5
    have x6 : w2.cell? ⟨w.heap.size + 1, 6, none⟩ = some (.int .i64 0) := blk_cell (hR2).res 6
    have x7 : w2.cell? ⟨w.heap.size + 1, 7, none⟩ = some (.int .i64 0) := blk_cell (hR2).res 7
    have x8 : w2.cell? ⟨w.heap.size + 1, 8, none⟩ = some (.int .i64 0) := blk_cell (hR2).res 8
    have x9 : w2.cell? ⟨w.heap.size + 1, 9, none⟩ = some (.int .i64 0) := blk_cell (hR2).res 9
    have x10 : w2.cell? ⟨w.heap.size + 1, 10, none⟩ = some (.int .i64 0) := blk_cell (hR2).res 10
    have x11 : w2.cell? ⟨w.heap.size + 1, 11, none⟩ = some (.bool false) := blk_cell (hR2).res 11
    have x12 : w2.cell? ⟨w.heap.size + 1, 12, none⟩ = some (.slice none 0 0) := blk_cell (hR2).res 12
    have fb := blk_free (hR2).box
    have fr := blk_free (hR2).res
    replace hR2 := Lib.hid hR2; replace hb2 := Lib.hid hb2
    go_wp2
    refine bodyPost_ret (v := .tuple #[(⟨⟨user, part, (-1), ⟨da, db, dc, dd⟩, wall, prio, array, retries, held, after⟩, so, n, cp⟩ : Spv).val, .bool false]) (by simp [results, Tryz.results115, go_sem, x0, x1, x2, x3, x4, x5, x6, x7, x8, x9, x10, x11, x12]) rfl ⟨⟨⟨user, part, (-1), ⟨da, db, dc, dd⟩, wall, prio, array, retries, held, after⟩, so, n, cp⟩, false, rfl, rlow13 (hR2.out.low.setCell (Nat.le_refl _) _) _ _ _ _ _ _ _ _ _ _ _ _ _, hz.out, (fun h => by cases h), .inl rfl⟩
  | some m =>
    have hm := fieldN_some hf.symm
    have hm0 : 0 ≤ m := by have := betw_iff.1 hm.1; omega
    have d : decide (0 ≤ m) = true := decide_eq_true hm0
    have hz : setP kNodes v ⟨user, part, nodes, ⟨da, db, dc, dd⟩, wall, prio, array, retries, held, after⟩ = some ⟨user, part, m, ⟨da, db, dc, dd⟩, wall, prio, array, retries, held, after⟩ := by
      show (fieldN v 1 16).map _ = some _
      rw [← hf]; rfl
    simp only [Option.getD_some] at hcn
    replace hR := Lib.hid hR; replace hcn := Lib.hid hcn; replace hf := Lib.hid hf; replace hz := Lib.hid hz; replace hx := Lib.hid hx; replace hv := Lib.hid hv; replace hm := Lib.hid hm
    go_enter Tryz.func115, Tryz.ntmps115
    go_wp2_with fail
    refine hcn.out.mono ?_
    rintro e w2 ⟨rfl, hb2⟩
    have hR2 := hR.out.on hb2
    have y0 : w2.cell? ⟨w.heap.size, 0, none⟩ = some (.string user) := blk_cell (hR2).box 0
    have y1 : w2.cell? ⟨w.heap.size, 1, none⟩ = some (.string part) := blk_cell (hR2).box 1
    have y2 : w2.cell? ⟨w.heap.size, 2, none⟩ = some (.int .i64 nodes) := blk_cell (hR2).box 2
    have y3 : w2.cell? ⟨w.heap.size, 3, none⟩ = some (.int .i64 da) := blk_cell (hR2).box 3
    have y4 : w2.cell? ⟨w.heap.size, 4, none⟩ = some (.int .i64 db) := blk_cell (hR2).box 4
    have y5 : w2.cell? ⟨w.heap.size, 5, none⟩ = some (.int .i64 dc) := blk_cell (hR2).box 5
    have y6 : w2.cell? ⟨w.heap.size, 6, none⟩ = some (.int .i64 dd) := blk_cell (hR2).box 6
    have y7 : w2.cell? ⟨w.heap.size, 7, none⟩ = some (.int .i64 wall) := blk_cell (hR2).box 7
    have y8 : w2.cell? ⟨w.heap.size, 8, none⟩ = some (.int .i64 prio) := blk_cell (hR2).box 8
    have y9 : w2.cell? ⟨w.heap.size, 9, none⟩ = some (.int .i64 array) := blk_cell (hR2).box 9
    have y10 : w2.cell? ⟨w.heap.size, 10, none⟩ = some (.int .i64 retries) := blk_cell (hR2).box 10
    have y11 : w2.cell? ⟨w.heap.size, 11, none⟩ = some (.bool held) := blk_cell (hR2).box 11
    have y12 : w2.cell? ⟨w.heap.size, 12, none⟩ = some (.slice so n cp) := blk_cell (hR2).box 12
    have x0 : w2.cell? ⟨w.heap.size + 1, 0, none⟩ = some (.string ByteArray.empty) := blk_cell (hR2).res 0
    have x1 : w2.cell? ⟨w.heap.size + 1, 1, none⟩ = some (.string ByteArray.empty) := blk_cell (hR2).res 1
    have x2 : w2.cell? ⟨w.heap.size + 1, 2, none⟩ = some (.int .i64 0) := blk_cell (hR2).res 2
    have x3 : w2.cell? ⟨w.heap.size + 1, 3, none⟩ = some (.int .i64 0) := blk_cell (hR2).res 3
    have x4 : w2.cell? ⟨w.heap.size + 1, 4, none⟩ = some (.int .i64 0) := blk_cell (hR2).res 4
    have x5 : w2.cell? ⟨w.heap.size + 1, 5, none⟩ = some (.int .i64 0) := blk_cell (hR2).res 5
    have x6 : w2.cell? ⟨w.heap.size + 1, 6, none⟩ = some (.int .i64 0) := blk_cell (hR2).res 6
    have x7 : w2.cell? ⟨w.heap.size + 1, 7, none⟩ = some (.int .i64 0) := blk_cell (hR2).res 7
    have x8 : w2.cell? ⟨w.heap.size + 1, 8, none⟩ = some (.int .i64 0) := blk_cell (hR2).res 8
    have x9 : w2.cell? ⟨w.heap.size + 1, 9, none⟩ = some (.int .i64 0) := blk_cell (hR2).res 9
    have x10 : w2.cell? ⟨w.heap.size + 1, 10, none⟩ = some (.int .i64 0) := blk_cell (hR2).res 10
    have x11 : w2.cell? ⟨w.heap.size + 1, 11, none⟩ = some (.bool false) := blk_cell (hR2).res 11
    have x12 : w2.cell? ⟨w.heap.size + 1, 12, none⟩ = some (.slice none 0 0) := blk_cell (hR2).res 12
    have fb := blk_free (hR2).box
    have fr := blk_free (hR2).res
    replace hR2 := Lib.hid hR2; replace hb2 := Lib.hid hb2
    go_wp2
    refine bodyPost_ret (v := .tuple #[(⟨⟨user, part, m, ⟨da, db, dc, dd⟩, wall, prio, array, retries, held, after⟩, so, n, cp⟩ : Spv).val, .bool true]) (by simp [results, Tryz.results115, go_sem, x0, x1, x2, x3, x4, x5, x6, x7, x8, x9, x10, x11, x12]) rfl ⟨⟨⟨user, part, m, ⟨da, db, dc, dd⟩, wall, prio, array, retries, held, after⟩, so, n, cp⟩, true, rfl, rlow13 (hR2.out.low.setCell (Nat.le_refl _) _) _ _ _ _ _ _ _ _ _ _ _ _ _, hz.out, (fun _ => ⟨hx.out.after.low (rlow13 (hR2.out.low.setCell (Nat.le_refl _) _) _ _ _ _ _ _ _ _ _ _ _ _ _), hx.out.ple, hx.out.user, hx.out.part⟩), .inl rfl⟩
set_option maxRecDepth 100000 in
set_option maxHeartbeats 3200000 in
theorem rset_wall (v : ByteArray) (x : Spv) (w : World) (hx : x.ok w) (hv : v.size ≤ maxLen) : Calls Tryz.prog 115 #[x.val, .int .i64 4, .string v] w (RsetPost x kWall v w) := by
  obtain ⟨⟨user, part, nodes, ⟨da, db, dc, dd⟩, wall, prio, array, retries, held, after⟩, so, n, cp⟩ := x
  have hR := RsW.new w ⟨⟨user, part, nodes, ⟨da, db, dc, dd⟩, wall, prio, array, retries, held, after⟩, so, n, cp⟩
  have hcn := rnumber_any v 1 1000 (BW w ⟨⟨user, part, nodes, ⟨da, db, dc, dd⟩, wall, prio, array, retries, held, after⟩, so, n, cp⟩) hv
  obtain ⟨f, hf⟩ : ∃ f, f = fieldN v 1 1000 := ⟨_, rfl⟩
  rw [← hf] at hcn
  cases f with
  | none =>
    have hz : setP kWall v ⟨user, part, nodes, ⟨da, db, dc, dd⟩, wall, prio, array, retries, held, after⟩ = none := by
      show (fieldN v 1 1000).map _ = none
      rw [← hf]; rfl
    simp only [Option.getD_none] at hcn
    replace hR := Lib.hid hR; replace hcn := Lib.hid hcn; replace hf := Lib.hid hf; replace hz := Lib.hid hz; replace hx := Lib.hid hx; replace hv := Lib.hid hv
    go_enter Tryz.func115, Tryz.ntmps115
    go_wp2_with fail
    refine hcn.out.mono ?_
    rintro e w2 ⟨rfl, hb2⟩
    have hR2 := hR.out.on hb2
    have y0 : w2.cell? ⟨w.heap.size, 0, none⟩ = some (.string user) := blk_cell (hR2).box 0
    have y1 : w2.cell? ⟨w.heap.size, 1, none⟩ = some (.string part) := blk_cell (hR2).box 1
    have y2 : w2.cell? ⟨w.heap.size, 2, none⟩ = some (.int .i64 nodes) := blk_cell (hR2).box 2
    have y3 : w2.cell? ⟨w.heap.size, 3, none⟩ = some (.int .i64 da) := blk_cell (hR2).box 3
    have y4 : w2.cell? ⟨w.heap.size, 4, none⟩ = some (.int .i64 db) := blk_cell (hR2).box 4
    have y5 : w2.cell? ⟨w.heap.size, 5, none⟩ = some (.int .i64 dc) := blk_cell (hR2).box 5
    have y6 : w2.cell? ⟨w.heap.size, 6, none⟩ = some (.int .i64 dd) := blk_cell (hR2).box 6
    have y7 : w2.cell? ⟨w.heap.size, 7, none⟩ = some (.int .i64 wall) := blk_cell (hR2).box 7
    have y8 : w2.cell? ⟨w.heap.size, 8, none⟩ = some (.int .i64 prio) := blk_cell (hR2).box 8
    have y9 : w2.cell? ⟨w.heap.size, 9, none⟩ = some (.int .i64 array) := blk_cell (hR2).box 9
    have y10 : w2.cell? ⟨w.heap.size, 10, none⟩ = some (.int .i64 retries) := blk_cell (hR2).box 10
    have y11 : w2.cell? ⟨w.heap.size, 11, none⟩ = some (.bool held) := blk_cell (hR2).box 11
    have y12 : w2.cell? ⟨w.heap.size, 12, none⟩ = some (.slice so n cp) := blk_cell (hR2).box 12
    have x0 : w2.cell? ⟨w.heap.size + 1, 0, none⟩ = some (.string ByteArray.empty) := blk_cell (hR2).res 0
    have x1 : w2.cell? ⟨w.heap.size + 1, 1, none⟩ = some (.string ByteArray.empty) := blk_cell (hR2).res 1
    have x2 : w2.cell? ⟨w.heap.size + 1, 2, none⟩ = some (.int .i64 0) := blk_cell (hR2).res 2
    have x3 : w2.cell? ⟨w.heap.size + 1, 3, none⟩ = some (.int .i64 0) := blk_cell (hR2).res 3
    have x4 : w2.cell? ⟨w.heap.size + 1, 4, none⟩ = some (.int .i64 0) := blk_cell (hR2).res 4
    have x5 : w2.cell? ⟨w.heap.size + 1, 5, none⟩ = some (.int .i64 0) := blk_cell (hR2).res 5
    have x6 : w2.cell? ⟨w.heap.size + 1, 6, none⟩ = some (.int .i64 0) := blk_cell (hR2).res 6
    have x7 : w2.cell? ⟨w.heap.size + 1, 7, none⟩ = some (.int .i64 0) := blk_cell (hR2).res 7
    have x8 : w2.cell? ⟨w.heap.size + 1, 8, none⟩ = some (.int .i64 0) := blk_cell (hR2).res 8
    have x9 : w2.cell? ⟨w.heap.size + 1, 9, none⟩ = some (.int .i64 0) := blk_cell (hR2).res 9
    have x10 : w2.cell? ⟨w.heap.size + 1, 10, none⟩ = some (.int .i64 0) := blk_cell (hR2).res 10
    have x11 : w2.cell? ⟨w.heap.size + 1, 11, none⟩ = some (.bool false) := blk_cell (hR2).res 11
    have x12 : w2.cell? ⟨w.heap.size + 1, 12, none⟩ = some (.slice none 0 0) := blk_cell (hR2).res 12
    have fb := blk_free (hR2).box
    have fr := blk_free (hR2).res
    replace hR2 := Lib.hid hR2; replace hb2 := Lib.hid hb2
    go_wp2
    refine bodyPost_ret (v := .tuple #[(⟨⟨user, part, nodes, ⟨da, db, dc, dd⟩, (-1), prio, array, retries, held, after⟩, so, n, cp⟩ : Spv).val, .bool false]) (by simp [results, Tryz.results115, go_sem, x0, x1, x2, x3, x4, x5, x6, x7, x8, x9, x10, x11, x12]) rfl ⟨⟨⟨user, part, nodes, ⟨da, db, dc, dd⟩, (-1), prio, array, retries, held, after⟩, so, n, cp⟩, false, rfl, rlow13 (hR2.out.low.setCell (Nat.le_refl _) _) _ _ _ _ _ _ _ _ _ _ _ _ _, hz.out, (fun h => by cases h), .inl rfl⟩
  | some m =>
    have hm := fieldN_some hf.symm
    have hm0 : 0 ≤ m := by have := betw_iff.1 hm.1; omega
    have d : decide (0 ≤ m) = true := decide_eq_true hm0
    have hz : setP kWall v ⟨user, part, nodes, ⟨da, db, dc, dd⟩, wall, prio, array, retries, held, after⟩ = some ⟨user, part, nodes, ⟨da, db, dc, dd⟩, m, prio, array, retries, held, after⟩ := by
      show (fieldN v 1 1000).map _ = some _
      rw [← hf]; rfl
    simp only [Option.getD_some] at hcn
    replace hR := Lib.hid hR; replace hcn := Lib.hid hcn; replace hf := Lib.hid hf; replace hz := Lib.hid hz; replace hx := Lib.hid hx; replace hv := Lib.hid hv; replace hm := Lib.hid hm
    go_enter Tryz.func115, Tryz.ntmps115
    go_wp2_with fail
    refine hcn.out.mono ?_
    rintro e w2 ⟨rfl, hb2⟩
    have hR2 := hR.out.on hb2
    have y0 : w2.cell? ⟨w.heap.size, 0, none⟩ = some (.string user) := blk_cell (hR2).box 0
    have y1 : w2.cell? ⟨w.heap.size, 1, none⟩ = some (.string part) := blk_cell (hR2).box 1
    have y2 : w2.cell? ⟨w.heap.size, 2, none⟩ = some (.int .i64 nodes) := blk_cell (hR2).box 2
    have y3 : w2.cell? ⟨w.heap.size, 3, none⟩ = some (.int .i64 da) := blk_cell (hR2).box 3
    have y4 : w2.cell? ⟨w.heap.size, 4, none⟩ = some (.int .i64 db) := blk_cell (hR2).box 4
    have y5 : w2.cell? ⟨w.heap.size, 5, none⟩ = some (.int .i64 dc) := blk_cell (hR2).box 5
    have y6 : w2.cell? ⟨w.heap.size, 6, none⟩ = some (.int .i64 dd) := blk_cell (hR2).box 6
    have y7 : w2.cell? ⟨w.heap.size, 7, none⟩ = some (.int .i64 wall) := blk_cell (hR2).box 7
    have y8 : w2.cell? ⟨w.heap.size, 8, none⟩ = some (.int .i64 prio) := blk_cell (hR2).box 8
    have y9 : w2.cell? ⟨w.heap.size, 9, none⟩ = some (.int .i64 array) := blk_cell (hR2).box 9
    have y10 : w2.cell? ⟨w.heap.size, 10, none⟩ = some (.int .i64 retries) := blk_cell (hR2).box 10
    have y11 : w2.cell? ⟨w.heap.size, 11, none⟩ = some (.bool held) := blk_cell (hR2).box 11
    have y12 : w2.cell? ⟨w.heap.size, 12, none⟩ = some (.slice so n cp) := blk_cell (hR2).box 12
    have x0 : w2.cell? ⟨w.heap.size + 1, 0, none⟩ = some (.string ByteArray.empty) := blk_cell (hR2).res 0
    have x1 : w2.cell? ⟨w.heap.size + 1, 1, none⟩ = some (.string ByteArray.empty) := blk_cell (hR2).res 1
    have x2 : w2.cell? ⟨w.heap.size + 1, 2, none⟩ = some (.int .i64 0) := blk_cell (hR2).res 2
    have x3 : w2.cell? ⟨w.heap.size + 1, 3, none⟩ = some (.int .i64 0) := blk_cell (hR2).res 3
    have x4 : w2.cell? ⟨w.heap.size + 1, 4, none⟩ = some (.int .i64 0) := blk_cell (hR2).res 4
    have x5 : w2.cell? ⟨w.heap.size + 1, 5, none⟩ = some (.int .i64 0) := blk_cell (hR2).res 5
    have x6 : w2.cell? ⟨w.heap.size + 1, 6, none⟩ = some (.int .i64 0) := blk_cell (hR2).res 6
    have x7 : w2.cell? ⟨w.heap.size + 1, 7, none⟩ = some (.int .i64 0) := blk_cell (hR2).res 7
    have x8 : w2.cell? ⟨w.heap.size + 1, 8, none⟩ = some (.int .i64 0) := blk_cell (hR2).res 8
    have x9 : w2.cell? ⟨w.heap.size + 1, 9, none⟩ = some (.int .i64 0) := blk_cell (hR2).res 9
    have x10 : w2.cell? ⟨w.heap.size + 1, 10, none⟩ = some (.int .i64 0) := blk_cell (hR2).res 10
    have x11 : w2.cell? ⟨w.heap.size + 1, 11, none⟩ = some (.bool false) := blk_cell (hR2).res 11
    have x12 : w2.cell? ⟨w.heap.size + 1, 12, none⟩ = some (.slice none 0 0) := blk_cell (hR2).res 12
    have fb := blk_free (hR2).box
    have fr := blk_free (hR2).res
    replace hR2 := Lib.hid hR2; replace hb2 := Lib.hid hb2
    go_wp2
    refine bodyPost_ret (v := .tuple #[(⟨⟨user, part, nodes, ⟨da, db, dc, dd⟩, m, prio, array, retries, held, after⟩, so, n, cp⟩ : Spv).val, .bool true]) (by simp [results, Tryz.results115, go_sem, x0, x1, x2, x3, x4, x5, x6, x7, x8, x9, x10, x11, x12]) rfl ⟨⟨⟨user, part, nodes, ⟨da, db, dc, dd⟩, m, prio, array, retries, held, after⟩, so, n, cp⟩, true, rfl, rlow13 (hR2.out.low.setCell (Nat.le_refl _) _) _ _ _ _ _ _ _ _ _ _ _ _ _, hz.out, (fun _ => ⟨hx.out.after.low (rlow13 (hR2.out.low.setCell (Nat.le_refl _) _) _ _ _ _ _ _ _ _ _ _ _ _ _), hx.out.ple, hx.out.user, hx.out.part⟩), .inl rfl⟩
set_option maxRecDepth 100000 in
set_option maxHeartbeats 3200000 in
theorem rset_prio (v : ByteArray) (x : Spv) (w : World) (hx : x.ok w) (hv : v.size ≤ maxLen) : Calls Tryz.prog 115 #[x.val, .int .i64 5, .string v] w (RsetPost x kPrio v w) := by
  obtain ⟨⟨user, part, nodes, ⟨da, db, dc, dd⟩, wall, prio, array, retries, held, after⟩, so, n, cp⟩ := x
  have hR := RsW.new w ⟨⟨user, part, nodes, ⟨da, db, dc, dd⟩, wall, prio, array, retries, held, after⟩, so, n, cp⟩
  have hcn := rnumber_any v 0 100 (BW w ⟨⟨user, part, nodes, ⟨da, db, dc, dd⟩, wall, prio, array, retries, held, after⟩, so, n, cp⟩) hv
  obtain ⟨f, hf⟩ : ∃ f, f = fieldN v 0 100 := ⟨_, rfl⟩
  rw [← hf] at hcn
  cases f with
  | none =>
    have hz : setP kPrio v ⟨user, part, nodes, ⟨da, db, dc, dd⟩, wall, prio, array, retries, held, after⟩ = none := by
      show (fieldN v 0 100).map _ = none
      rw [← hf]; rfl
    simp only [Option.getD_none] at hcn
    replace hR := Lib.hid hR; replace hcn := Lib.hid hcn; replace hf := Lib.hid hf; replace hz := Lib.hid hz; replace hx := Lib.hid hx; replace hv := Lib.hid hv
    go_enter Tryz.func115, Tryz.ntmps115
    go_wp2_with fail
    refine hcn.out.mono ?_
    rintro e w2 ⟨rfl, hb2⟩
    have hR2 := hR.out.on hb2
    have y0 : w2.cell? ⟨w.heap.size, 0, none⟩ = some (.string user) := blk_cell (hR2).box 0
    have y1 : w2.cell? ⟨w.heap.size, 1, none⟩ = some (.string part) := blk_cell (hR2).box 1
    have y2 : w2.cell? ⟨w.heap.size, 2, none⟩ = some (.int .i64 nodes) := blk_cell (hR2).box 2
    have y3 : w2.cell? ⟨w.heap.size, 3, none⟩ = some (.int .i64 da) := blk_cell (hR2).box 3
    have y4 : w2.cell? ⟨w.heap.size, 4, none⟩ = some (.int .i64 db) := blk_cell (hR2).box 4
    have y5 : w2.cell? ⟨w.heap.size, 5, none⟩ = some (.int .i64 dc) := blk_cell (hR2).box 5
    have y6 : w2.cell? ⟨w.heap.size, 6, none⟩ = some (.int .i64 dd) := blk_cell (hR2).box 6
    have y7 : w2.cell? ⟨w.heap.size, 7, none⟩ = some (.int .i64 wall) := blk_cell (hR2).box 7
    have y8 : w2.cell? ⟨w.heap.size, 8, none⟩ = some (.int .i64 prio) := blk_cell (hR2).box 8
    have y9 : w2.cell? ⟨w.heap.size, 9, none⟩ = some (.int .i64 array) := blk_cell (hR2).box 9
    have y10 : w2.cell? ⟨w.heap.size, 10, none⟩ = some (.int .i64 retries) := blk_cell (hR2).box 10
    have y11 : w2.cell? ⟨w.heap.size, 11, none⟩ = some (.bool held) := blk_cell (hR2).box 11
    have y12 : w2.cell? ⟨w.heap.size, 12, none⟩ = some (.slice so n cp) := blk_cell (hR2).box 12
    have x0 : w2.cell? ⟨w.heap.size + 1, 0, none⟩ = some (.string ByteArray.empty) := blk_cell (hR2).res 0
    have x1 : w2.cell? ⟨w.heap.size + 1, 1, none⟩ = some (.string ByteArray.empty) := blk_cell (hR2).res 1
    have x2 : w2.cell? ⟨w.heap.size + 1, 2, none⟩ = some (.int .i64 0) := blk_cell (hR2).res 2
    have x3 : w2.cell? ⟨w.heap.size + 1, 3, none⟩ = some (.int .i64 0) := blk_cell (hR2).res 3
    have x4 : w2.cell? ⟨w.heap.size + 1, 4, none⟩ = some (.int .i64 0) := blk_cell (hR2).res 4
    have x5 : w2.cell? ⟨w.heap.size + 1, 5, none⟩ = some (.int .i64 0) := blk_cell (hR2).res 5
    have x6 : w2.cell? ⟨w.heap.size + 1, 6, none⟩ = some (.int .i64 0) := blk_cell (hR2).res 6
    have x7 : w2.cell? ⟨w.heap.size + 1, 7, none⟩ = some (.int .i64 0) := blk_cell (hR2).res 7
    have x8 : w2.cell? ⟨w.heap.size + 1, 8, none⟩ = some (.int .i64 0) := blk_cell (hR2).res 8
    have x9 : w2.cell? ⟨w.heap.size + 1, 9, none⟩ = some (.int .i64 0) := blk_cell (hR2).res 9
    have x10 : w2.cell? ⟨w.heap.size + 1, 10, none⟩ = some (.int .i64 0) := blk_cell (hR2).res 10
    have x11 : w2.cell? ⟨w.heap.size + 1, 11, none⟩ = some (.bool false) := blk_cell (hR2).res 11
    have x12 : w2.cell? ⟨w.heap.size + 1, 12, none⟩ = some (.slice none 0 0) := blk_cell (hR2).res 12
    have fb := blk_free (hR2).box
    have fr := blk_free (hR2).res
    replace hR2 := Lib.hid hR2; replace hb2 := Lib.hid hb2
    go_wp2
    refine bodyPost_ret (v := .tuple #[(⟨⟨user, part, nodes, ⟨da, db, dc, dd⟩, wall, (-1), array, retries, held, after⟩, so, n, cp⟩ : Spv).val, .bool false]) (by simp [results, Tryz.results115, go_sem, x0, x1, x2, x3, x4, x5, x6, x7, x8, x9, x10, x11, x12]) rfl ⟨⟨⟨user, part, nodes, ⟨da, db, dc, dd⟩, wall, (-1), array, retries, held, after⟩, so, n, cp⟩, false, rfl, rlow13 (hR2.out.low.setCell (Nat.le_refl _) _) _ _ _ _ _ _ _ _ _ _ _ _ _, hz.out, (fun h => by cases h), .inl rfl⟩
  | some m =>
    have hm := fieldN_some hf.symm
    have hm0 : 0 ≤ m := by have := betw_iff.1 hm.1; omega
    have d : decide (0 ≤ m) = true := decide_eq_true hm0
    have hz : setP kPrio v ⟨user, part, nodes, ⟨da, db, dc, dd⟩, wall, prio, array, retries, held, after⟩ = some ⟨user, part, nodes, ⟨da, db, dc, dd⟩, wall, m, array, retries, held, after⟩ := by
      show (fieldN v 0 100).map _ = some _
      rw [← hf]; rfl
    simp only [Option.getD_some] at hcn
    replace hR := Lib.hid hR; replace hcn := Lib.hid hcn; replace hf := Lib.hid hf; replace hz := Lib.hid hz; replace hx := Lib.hid hx; replace hv := Lib.hid hv; replace hm := Lib.hid hm
    go_enter Tryz.func115, Tryz.ntmps115
    go_wp2_with fail
    refine hcn.out.mono ?_
    rintro e w2 ⟨rfl, hb2⟩
    have hR2 := hR.out.on hb2
    have y0 : w2.cell? ⟨w.heap.size, 0, none⟩ = some (.string user) := blk_cell (hR2).box 0
    have y1 : w2.cell? ⟨w.heap.size, 1, none⟩ = some (.string part) := blk_cell (hR2).box 1
    have y2 : w2.cell? ⟨w.heap.size, 2, none⟩ = some (.int .i64 nodes) := blk_cell (hR2).box 2
    have y3 : w2.cell? ⟨w.heap.size, 3, none⟩ = some (.int .i64 da) := blk_cell (hR2).box 3
    have y4 : w2.cell? ⟨w.heap.size, 4, none⟩ = some (.int .i64 db) := blk_cell (hR2).box 4
    have y5 : w2.cell? ⟨w.heap.size, 5, none⟩ = some (.int .i64 dc) := blk_cell (hR2).box 5
    have y6 : w2.cell? ⟨w.heap.size, 6, none⟩ = some (.int .i64 dd) := blk_cell (hR2).box 6
    have y7 : w2.cell? ⟨w.heap.size, 7, none⟩ = some (.int .i64 wall) := blk_cell (hR2).box 7
    have y8 : w2.cell? ⟨w.heap.size, 8, none⟩ = some (.int .i64 prio) := blk_cell (hR2).box 8
    have y9 : w2.cell? ⟨w.heap.size, 9, none⟩ = some (.int .i64 array) := blk_cell (hR2).box 9
    have y10 : w2.cell? ⟨w.heap.size, 10, none⟩ = some (.int .i64 retries) := blk_cell (hR2).box 10
    have y11 : w2.cell? ⟨w.heap.size, 11, none⟩ = some (.bool held) := blk_cell (hR2).box 11
    have y12 : w2.cell? ⟨w.heap.size, 12, none⟩ = some (.slice so n cp) := blk_cell (hR2).box 12
    have x0 : w2.cell? ⟨w.heap.size + 1, 0, none⟩ = some (.string ByteArray.empty) := blk_cell (hR2).res 0
    have x1 : w2.cell? ⟨w.heap.size + 1, 1, none⟩ = some (.string ByteArray.empty) := blk_cell (hR2).res 1
    have x2 : w2.cell? ⟨w.heap.size + 1, 2, none⟩ = some (.int .i64 0) := blk_cell (hR2).res 2
    have x3 : w2.cell? ⟨w.heap.size + 1, 3, none⟩ = some (.int .i64 0) := blk_cell (hR2).res 3
    have x4 : w2.cell? ⟨w.heap.size + 1, 4, none⟩ = some (.int .i64 0) := blk_cell (hR2).res 4
    have x5 : w2.cell? ⟨w.heap.size + 1, 5, none⟩ = some (.int .i64 0) := blk_cell (hR2).res 5
    have x6 : w2.cell? ⟨w.heap.size + 1, 6, none⟩ = some (.int .i64 0) := blk_cell (hR2).res 6
    have x7 : w2.cell? ⟨w.heap.size + 1, 7, none⟩ = some (.int .i64 0) := blk_cell (hR2).res 7
    have x8 : w2.cell? ⟨w.heap.size + 1, 8, none⟩ = some (.int .i64 0) := blk_cell (hR2).res 8
    have x9 : w2.cell? ⟨w.heap.size + 1, 9, none⟩ = some (.int .i64 0) := blk_cell (hR2).res 9
    have x10 : w2.cell? ⟨w.heap.size + 1, 10, none⟩ = some (.int .i64 0) := blk_cell (hR2).res 10
    have x11 : w2.cell? ⟨w.heap.size + 1, 11, none⟩ = some (.bool false) := blk_cell (hR2).res 11
    have x12 : w2.cell? ⟨w.heap.size + 1, 12, none⟩ = some (.slice none 0 0) := blk_cell (hR2).res 12
    have fb := blk_free (hR2).box
    have fr := blk_free (hR2).res
    replace hR2 := Lib.hid hR2; replace hb2 := Lib.hid hb2
    go_wp2
    refine bodyPost_ret (v := .tuple #[(⟨⟨user, part, nodes, ⟨da, db, dc, dd⟩, wall, m, array, retries, held, after⟩, so, n, cp⟩ : Spv).val, .bool true]) (by simp [results, Tryz.results115, go_sem, x0, x1, x2, x3, x4, x5, x6, x7, x8, x9, x10, x11, x12]) rfl ⟨⟨⟨user, part, nodes, ⟨da, db, dc, dd⟩, wall, m, array, retries, held, after⟩, so, n, cp⟩, true, rfl, rlow13 (hR2.out.low.setCell (Nat.le_refl _) _) _ _ _ _ _ _ _ _ _ _ _ _ _, hz.out, (fun _ => ⟨hx.out.after.low (rlow13 (hR2.out.low.setCell (Nat.le_refl _) _) _ _ _ _ _ _ _ _ _ _ _ _ _), hx.out.ple, hx.out.user, hx.out.part⟩), .inl rfl⟩
set_option maxRecDepth 100000 in
set_option maxHeartbeats 3200000 in
theorem rset_array (v : ByteArray) (x : Spv) (w : World) (hx : x.ok w) (hv : v.size ≤ maxLen) : Calls Tryz.prog 115 #[x.val, .int .i64 6, .string v] w (RsetPost x kArray v w) := by
  obtain ⟨⟨user, part, nodes, ⟨da, db, dc, dd⟩, wall, prio, array, retries, held, after⟩, so, n, cp⟩ := x
  have hR := RsW.new w ⟨⟨user, part, nodes, ⟨da, db, dc, dd⟩, wall, prio, array, retries, held, after⟩, so, n, cp⟩
  have hcn := rnumber_any v 1 20 (BW w ⟨⟨user, part, nodes, ⟨da, db, dc, dd⟩, wall, prio, array, retries, held, after⟩, so, n, cp⟩) hv
  obtain ⟨f, hf⟩ : ∃ f, f = fieldN v 1 20 := ⟨_, rfl⟩
  rw [← hf] at hcn
  cases f with
  | none =>
    have hz : setP kArray v ⟨user, part, nodes, ⟨da, db, dc, dd⟩, wall, prio, array, retries, held, after⟩ = none := by
      show (fieldN v 1 20).map _ = none
      rw [← hf]; rfl
    simp only [Option.getD_none] at hcn
    replace hR := Lib.hid hR; replace hcn := Lib.hid hcn; replace hf := Lib.hid hf; replace hz := Lib.hid hz; replace hx := Lib.hid hx; replace hv := Lib.hid hv
    go_enter Tryz.func115, Tryz.ntmps115
    go_wp2_with fail
    refine hcn.out.mono ?_
    rintro e w2 ⟨rfl, hb2⟩
    have hR2 := hR.out.on hb2
    have y0 : w2.cell? ⟨w.heap.size, 0, none⟩ = some (.string user) := blk_cell (hR2).box 0
    have y1 : w2.cell? ⟨w.heap.size, 1, none⟩ = some (.string part) := blk_cell (hR2).box 1
    have y2 : w2.cell? ⟨w.heap.size, 2, none⟩ = some (.int .i64 nodes) := blk_cell (hR2).box 2
    have y3 : w2.cell? ⟨w.heap.size, 3, none⟩ = some (.int .i64 da) := blk_cell (hR2).box 3
    have y4 : w2.cell? ⟨w.heap.size, 4, none⟩ = some (.int .i64 db) := blk_cell (hR2).box 4
    have y5 : w2.cell? ⟨w.heap.size, 5, none⟩ = some (.int .i64 dc) := blk_cell (hR2).box 5
    have y6 : w2.cell? ⟨w.heap.size, 6, none⟩ = some (.int .i64 dd) := blk_cell (hR2).box 6
    have y7 : w2.cell? ⟨w.heap.size, 7, none⟩ = some (.int .i64 wall) := blk_cell (hR2).box 7
    have y8 : w2.cell? ⟨w.heap.size, 8, none⟩ = some (.int .i64 prio) := blk_cell (hR2).box 8
    have y9 : w2.cell? ⟨w.heap.size, 9, none⟩ = some (.int .i64 array) := blk_cell (hR2).box 9
    have y10 : w2.cell? ⟨w.heap.size, 10, none⟩ = some (.int .i64 retries) := blk_cell (hR2).box 10
    have y11 : w2.cell? ⟨w.heap.size, 11, none⟩ = some (.bool held) := blk_cell (hR2).box 11
    have y12 : w2.cell? ⟨w.heap.size, 12, none⟩ = some (.slice so n cp) := blk_cell (hR2).box 12
    have x0 : w2.cell? ⟨w.heap.size + 1, 0, none⟩ = some (.string ByteArray.empty) := blk_cell (hR2).res 0
    have x1 : w2.cell? ⟨w.heap.size + 1, 1, none⟩ = some (.string ByteArray.empty) := blk_cell (hR2).res 1
    have x2 : w2.cell? ⟨w.heap.size + 1, 2, none⟩ = some (.int .i64 0) := blk_cell (hR2).res 2
    have x3 : w2.cell? ⟨w.heap.size + 1, 3, none⟩ = some (.int .i64 0) := blk_cell (hR2).res 3
    have x4 : w2.cell? ⟨w.heap.size + 1, 4, none⟩ = some (.int .i64 0) := blk_cell (hR2).res 4
    have x5 : w2.cell? ⟨w.heap.size + 1, 5, none⟩ = some (.int .i64 0) := blk_cell (hR2).res 5
    have x6 : w2.cell? ⟨w.heap.size + 1, 6, none⟩ = some (.int .i64 0) := blk_cell (hR2).res 6
    have x7 : w2.cell? ⟨w.heap.size + 1, 7, none⟩ = some (.int .i64 0) := blk_cell (hR2).res 7
    have x8 : w2.cell? ⟨w.heap.size + 1, 8, none⟩ = some (.int .i64 0) := blk_cell (hR2).res 8
    have x9 : w2.cell? ⟨w.heap.size + 1, 9, none⟩ = some (.int .i64 0) := blk_cell (hR2).res 9
    have x10 : w2.cell? ⟨w.heap.size + 1, 10, none⟩ = some (.int .i64 0) := blk_cell (hR2).res 10
    have x11 : w2.cell? ⟨w.heap.size + 1, 11, none⟩ = some (.bool false) := blk_cell (hR2).res 11
    have x12 : w2.cell? ⟨w.heap.size + 1, 12, none⟩ = some (.slice none 0 0) := blk_cell (hR2).res 12
    have fb := blk_free (hR2).box
    have fr := blk_free (hR2).res
    replace hR2 := Lib.hid hR2; replace hb2 := Lib.hid hb2
    go_wp2
    refine bodyPost_ret (v := .tuple #[(⟨⟨user, part, nodes, ⟨da, db, dc, dd⟩, wall, prio, (-1), retries, held, after⟩, so, n, cp⟩ : Spv).val, .bool false]) (by simp [results, Tryz.results115, go_sem, x0, x1, x2, x3, x4, x5, x6, x7, x8, x9, x10, x11, x12]) rfl ⟨⟨⟨user, part, nodes, ⟨da, db, dc, dd⟩, wall, prio, (-1), retries, held, after⟩, so, n, cp⟩, false, rfl, rlow13 (hR2.out.low.setCell (Nat.le_refl _) _) _ _ _ _ _ _ _ _ _ _ _ _ _, hz.out, (fun h => by cases h), .inl rfl⟩
  | some m =>
    have hm := fieldN_some hf.symm
    have hm0 : 0 ≤ m := by have := betw_iff.1 hm.1; omega
    have d : decide (0 ≤ m) = true := decide_eq_true hm0
    have hz : setP kArray v ⟨user, part, nodes, ⟨da, db, dc, dd⟩, wall, prio, array, retries, held, after⟩ = some ⟨user, part, nodes, ⟨da, db, dc, dd⟩, wall, prio, m, retries, held, after⟩ := by
      show (fieldN v 1 20).map _ = some _
      rw [← hf]; rfl
    simp only [Option.getD_some] at hcn
    replace hR := Lib.hid hR; replace hcn := Lib.hid hcn; replace hf := Lib.hid hf; replace hz := Lib.hid hz; replace hx := Lib.hid hx; replace hv := Lib.hid hv; replace hm := Lib.hid hm
    go_enter Tryz.func115, Tryz.ntmps115
    go_wp2_with fail
    refine hcn.out.mono ?_
    rintro e w2 ⟨rfl, hb2⟩
    have hR2 := hR.out.on hb2
    have y0 : w2.cell? ⟨w.heap.size, 0, none⟩ = some (.string user) := blk_cell (hR2).box 0
    have y1 : w2.cell? ⟨w.heap.size, 1, none⟩ = some (.string part) := blk_cell (hR2).box 1
    have y2 : w2.cell? ⟨w.heap.size, 2, none⟩ = some (.int .i64 nodes) := blk_cell (hR2).box 2
    have y3 : w2.cell? ⟨w.heap.size, 3, none⟩ = some (.int .i64 da) := blk_cell (hR2).box 3
    have y4 : w2.cell? ⟨w.heap.size, 4, none⟩ = some (.int .i64 db) := blk_cell (hR2).box 4
    have y5 : w2.cell? ⟨w.heap.size, 5, none⟩ = some (.int .i64 dc) := blk_cell (hR2).box 5
    have y6 : w2.cell? ⟨w.heap.size, 6, none⟩ = some (.int .i64 dd) := blk_cell (hR2).box 6
    have y7 : w2.cell? ⟨w.heap.size, 7, none⟩ = some (.int .i64 wall) := blk_cell (hR2).box 7
    have y8 : w2.cell? ⟨w.heap.size, 8, none⟩ = some (.int .i64 prio) := blk_cell (hR2).box 8
    have y9 : w2.cell? ⟨w.heap.size, 9, none⟩ = some (.int .i64 array) := blk_cell (hR2).box 9
    have y10 : w2.cell? ⟨w.heap.size, 10, none⟩ = some (.int .i64 retries) := blk_cell (hR2).box 10
    have y11 : w2.cell? ⟨w.heap.size, 11, none⟩ = some (.bool held) := blk_cell (hR2).box 11
    have y12 : w2.cell? ⟨w.heap.size, 12, none⟩ = some (.slice so n cp) := blk_cell (hR2).box 12
    have x0 : w2.cell? ⟨w.heap.size + 1, 0, none⟩ = some (.string ByteArray.empty) := blk_cell (hR2).res 0
    have x1 : w2.cell? ⟨w.heap.size + 1, 1, none⟩ = some (.string ByteArray.empty) := blk_cell (hR2).res 1
    have x2 : w2.cell? ⟨w.heap.size + 1, 2, none⟩ = some (.int .i64 0) := blk_cell (hR2).res 2
    have x3 : w2.cell? ⟨w.heap.size + 1, 3, none⟩ = some (.int .i64 0) := blk_cell (hR2).res 3
    have x4 : w2.cell? ⟨w.heap.size + 1, 4, none⟩ = some (.int .i64 0) := blk_cell (hR2).res 4
    have x5 : w2.cell? ⟨w.heap.size + 1, 5, none⟩ = some (.int .i64 0) := blk_cell (hR2).res 5
    have x6 : w2.cell? ⟨w.heap.size + 1, 6, none⟩ = some (.int .i64 0) := blk_cell (hR2).res 6
    have x7 : w2.cell? ⟨w.heap.size + 1, 7, none⟩ = some (.int .i64 0) := blk_cell (hR2).res 7
    have x8 : w2.cell? ⟨w.heap.size + 1, 8, none⟩ = some (.int .i64 0) := blk_cell (hR2).res 8
    have x9 : w2.cell? ⟨w.heap.size + 1, 9, none⟩ = some (.int .i64 0) := blk_cell (hR2).res 9
    have x10 : w2.cell? ⟨w.heap.size + 1, 10, none⟩ = some (.int .i64 0) := blk_cell (hR2).res 10
    have x11 : w2.cell? ⟨w.heap.size + 1, 11, none⟩ = some (.bool false) := blk_cell (hR2).res 11
    have x12 : w2.cell? ⟨w.heap.size + 1, 12, none⟩ = some (.slice none 0 0) := blk_cell (hR2).res 12
    have fb := blk_free (hR2).box
    have fr := blk_free (hR2).res
    replace hR2 := Lib.hid hR2; replace hb2 := Lib.hid hb2
    go_wp2
    refine bodyPost_ret (v := .tuple #[(⟨⟨user, part, nodes, ⟨da, db, dc, dd⟩, wall, prio, m, retries, held, after⟩, so, n, cp⟩ : Spv).val, .bool true]) (by simp [results, Tryz.results115, go_sem, x0, x1, x2, x3, x4, x5, x6, x7, x8, x9, x10, x11, x12]) rfl ⟨⟨⟨user, part, nodes, ⟨da, db, dc, dd⟩, wall, prio, m, retries, held, after⟩, so, n, cp⟩, true, rfl, rlow13 (hR2.out.low.setCell (Nat.le_refl _) _) _ _ _ _ _ _ _ _ _ _ _ _ _, hz.out, (fun _ => ⟨hx.out.after.low (rlow13 (hR2.out.low.setCell (Nat.le_refl _) _) _ _ _ _ _ _ _ _ _ _ _ _ _), hx.out.ple, hx.out.user, hx.out.part⟩), .inl rfl⟩
set_option maxRecDepth 100000 in
set_option maxHeartbeats 3200000 in
theorem rset_retries (v : ByteArray) (x : Spv) (w : World) (hx : x.ok w) (hv : v.size ≤ maxLen) : Calls Tryz.prog 115 #[x.val, .int .i64 7, .string v] w (RsetPost x kRetries v w) := by
  obtain ⟨⟨user, part, nodes, ⟨da, db, dc, dd⟩, wall, prio, array, retries, held, after⟩, so, n, cp⟩ := x
  have hR := RsW.new w ⟨⟨user, part, nodes, ⟨da, db, dc, dd⟩, wall, prio, array, retries, held, after⟩, so, n, cp⟩
  have hcn := rnumber_any v 0 5 (BW w ⟨⟨user, part, nodes, ⟨da, db, dc, dd⟩, wall, prio, array, retries, held, after⟩, so, n, cp⟩) hv
  obtain ⟨f, hf⟩ : ∃ f, f = fieldN v 0 5 := ⟨_, rfl⟩
  rw [← hf] at hcn
  cases f with
  | none =>
    have hz : setP kRetries v ⟨user, part, nodes, ⟨da, db, dc, dd⟩, wall, prio, array, retries, held, after⟩ = none := by
      show (fieldN v 0 5).map _ = none
      rw [← hf]; rfl
    simp only [Option.getD_none] at hcn
    replace hR := Lib.hid hR; replace hcn := Lib.hid hcn; replace hf := Lib.hid hf; replace hz := Lib.hid hz; replace hx := Lib.hid hx; replace hv := Lib.hid hv
    go_enter Tryz.func115, Tryz.ntmps115
    go_wp2_with fail
    refine hcn.out.mono ?_
    rintro e w2 ⟨rfl, hb2⟩
    have hR2 := hR.out.on hb2
    have y0 : w2.cell? ⟨w.heap.size, 0, none⟩ = some (.string user) := blk_cell (hR2).box 0
    have y1 : w2.cell? ⟨w.heap.size, 1, none⟩ = some (.string part) := blk_cell (hR2).box 1
    have y2 : w2.cell? ⟨w.heap.size, 2, none⟩ = some (.int .i64 nodes) := blk_cell (hR2).box 2
    have y3 : w2.cell? ⟨w.heap.size, 3, none⟩ = some (.int .i64 da) := blk_cell (hR2).box 3
    have y4 : w2.cell? ⟨w.heap.size, 4, none⟩ = some (.int .i64 db) := blk_cell (hR2).box 4
    have y5 : w2.cell? ⟨w.heap.size, 5, none⟩ = some (.int .i64 dc) := blk_cell (hR2).box 5
    have y6 : w2.cell? ⟨w.heap.size, 6, none⟩ = some (.int .i64 dd) := blk_cell (hR2).box 6
    have y7 : w2.cell? ⟨w.heap.size, 7, none⟩ = some (.int .i64 wall) := blk_cell (hR2).box 7
    have y8 : w2.cell? ⟨w.heap.size, 8, none⟩ = some (.int .i64 prio) := blk_cell (hR2).box 8
    have y9 : w2.cell? ⟨w.heap.size, 9, none⟩ = some (.int .i64 array) := blk_cell (hR2).box 9
    have y10 : w2.cell? ⟨w.heap.size, 10, none⟩ = some (.int .i64 retries) := blk_cell (hR2).box 10
    have y11 : w2.cell? ⟨w.heap.size, 11, none⟩ = some (.bool held) := blk_cell (hR2).box 11
    have y12 : w2.cell? ⟨w.heap.size, 12, none⟩ = some (.slice so n cp) := blk_cell (hR2).box 12
    have x0 : w2.cell? ⟨w.heap.size + 1, 0, none⟩ = some (.string ByteArray.empty) := blk_cell (hR2).res 0
    have x1 : w2.cell? ⟨w.heap.size + 1, 1, none⟩ = some (.string ByteArray.empty) := blk_cell (hR2).res 1
    have x2 : w2.cell? ⟨w.heap.size + 1, 2, none⟩ = some (.int .i64 0) := blk_cell (hR2).res 2
    have x3 : w2.cell? ⟨w.heap.size + 1, 3, none⟩ = some (.int .i64 0) := blk_cell (hR2).res 3
    have x4 : w2.cell? ⟨w.heap.size + 1, 4, none⟩ = some (.int .i64 0) := blk_cell (hR2).res 4
    have x5 : w2.cell? ⟨w.heap.size + 1, 5, none⟩ = some (.int .i64 0) := blk_cell (hR2).res 5
    have x6 : w2.cell? ⟨w.heap.size + 1, 6, none⟩ = some (.int .i64 0) := blk_cell (hR2).res 6
    have x7 : w2.cell? ⟨w.heap.size + 1, 7, none⟩ = some (.int .i64 0) := blk_cell (hR2).res 7
    have x8 : w2.cell? ⟨w.heap.size + 1, 8, none⟩ = some (.int .i64 0) := blk_cell (hR2).res 8
    have x9 : w2.cell? ⟨w.heap.size + 1, 9, none⟩ = some (.int .i64 0) := blk_cell (hR2).res 9
    have x10 : w2.cell? ⟨w.heap.size + 1, 10, none⟩ = some (.int .i64 0) := blk_cell (hR2).res 10
    have x11 : w2.cell? ⟨w.heap.size + 1, 11, none⟩ = some (.bool false) := blk_cell (hR2).res 11
    have x12 : w2.cell? ⟨w.heap.size + 1, 12, none⟩ = some (.slice none 0 0) := blk_cell (hR2).res 12
    have fb := blk_free (hR2).box
    have fr := blk_free (hR2).res
    replace hR2 := Lib.hid hR2; replace hb2 := Lib.hid hb2
    go_wp2
    refine bodyPost_ret (v := .tuple #[(⟨⟨user, part, nodes, ⟨da, db, dc, dd⟩, wall, prio, array, (-1), held, after⟩, so, n, cp⟩ : Spv).val, .bool false]) (by simp [results, Tryz.results115, go_sem, x0, x1, x2, x3, x4, x5, x6, x7, x8, x9, x10, x11, x12]) rfl ⟨⟨⟨user, part, nodes, ⟨da, db, dc, dd⟩, wall, prio, array, (-1), held, after⟩, so, n, cp⟩, false, rfl, rlow13 (hR2.out.low.setCell (Nat.le_refl _) _) _ _ _ _ _ _ _ _ _ _ _ _ _, hz.out, (fun h => by cases h), .inl rfl⟩
  | some m =>
    have hm := fieldN_some hf.symm
    have hm0 : 0 ≤ m := by have := betw_iff.1 hm.1; omega
    have d : decide (0 ≤ m) = true := decide_eq_true hm0
    have hz : setP kRetries v ⟨user, part, nodes, ⟨da, db, dc, dd⟩, wall, prio, array, retries, held, after⟩ = some ⟨user, part, nodes, ⟨da, db, dc, dd⟩, wall, prio, array, m, held, after⟩ := by
      show (fieldN v 0 5).map _ = some _
      rw [← hf]; rfl
    simp only [Option.getD_some] at hcn
    replace hR := Lib.hid hR; replace hcn := Lib.hid hcn; replace hf := Lib.hid hf; replace hz := Lib.hid hz; replace hx := Lib.hid hx; replace hv := Lib.hid hv; replace hm := Lib.hid hm
    go_enter Tryz.func115, Tryz.ntmps115
    go_wp2_with fail
    refine hcn.out.mono ?_
    rintro e w2 ⟨rfl, hb2⟩
    have hR2 := hR.out.on hb2
    have y0 : w2.cell? ⟨w.heap.size, 0, none⟩ = some (.string user) := blk_cell (hR2).box 0
    have y1 : w2.cell? ⟨w.heap.size, 1, none⟩ = some (.string part) := blk_cell (hR2).box 1
    have y2 : w2.cell? ⟨w.heap.size, 2, none⟩ = some (.int .i64 nodes) := blk_cell (hR2).box 2
    have y3 : w2.cell? ⟨w.heap.size, 3, none⟩ = some (.int .i64 da) := blk_cell (hR2).box 3
    have y4 : w2.cell? ⟨w.heap.size, 4, none⟩ = some (.int .i64 db) := blk_cell (hR2).box 4
    have y5 : w2.cell? ⟨w.heap.size, 5, none⟩ = some (.int .i64 dc) := blk_cell (hR2).box 5
    have y6 : w2.cell? ⟨w.heap.size, 6, none⟩ = some (.int .i64 dd) := blk_cell (hR2).box 6
    have y7 : w2.cell? ⟨w.heap.size, 7, none⟩ = some (.int .i64 wall) := blk_cell (hR2).box 7
    have y8 : w2.cell? ⟨w.heap.size, 8, none⟩ = some (.int .i64 prio) := blk_cell (hR2).box 8
    have y9 : w2.cell? ⟨w.heap.size, 9, none⟩ = some (.int .i64 array) := blk_cell (hR2).box 9
    have y10 : w2.cell? ⟨w.heap.size, 10, none⟩ = some (.int .i64 retries) := blk_cell (hR2).box 10
    have y11 : w2.cell? ⟨w.heap.size, 11, none⟩ = some (.bool held) := blk_cell (hR2).box 11
    have y12 : w2.cell? ⟨w.heap.size, 12, none⟩ = some (.slice so n cp) := blk_cell (hR2).box 12
    have x0 : w2.cell? ⟨w.heap.size + 1, 0, none⟩ = some (.string ByteArray.empty) := blk_cell (hR2).res 0
    have x1 : w2.cell? ⟨w.heap.size + 1, 1, none⟩ = some (.string ByteArray.empty) := blk_cell (hR2).res 1
    have x2 : w2.cell? ⟨w.heap.size + 1, 2, none⟩ = some (.int .i64 0) := blk_cell (hR2).res 2
    have x3 : w2.cell? ⟨w.heap.size + 1, 3, none⟩ = some (.int .i64 0) := blk_cell (hR2).res 3
    have x4 : w2.cell? ⟨w.heap.size + 1, 4, none⟩ = some (.int .i64 0) := blk_cell (hR2).res 4
    have x5 : w2.cell? ⟨w.heap.size + 1, 5, none⟩ = some (.int .i64 0) := blk_cell (hR2).res 5
    have x6 : w2.cell? ⟨w.heap.size + 1, 6, none⟩ = some (.int .i64 0) := blk_cell (hR2).res 6
    have x7 : w2.cell? ⟨w.heap.size + 1, 7, none⟩ = some (.int .i64 0) := blk_cell (hR2).res 7
    have x8 : w2.cell? ⟨w.heap.size + 1, 8, none⟩ = some (.int .i64 0) := blk_cell (hR2).res 8
    have x9 : w2.cell? ⟨w.heap.size + 1, 9, none⟩ = some (.int .i64 0) := blk_cell (hR2).res 9
    have x10 : w2.cell? ⟨w.heap.size + 1, 10, none⟩ = some (.int .i64 0) := blk_cell (hR2).res 10
    have x11 : w2.cell? ⟨w.heap.size + 1, 11, none⟩ = some (.bool false) := blk_cell (hR2).res 11
    have x12 : w2.cell? ⟨w.heap.size + 1, 12, none⟩ = some (.slice none 0 0) := blk_cell (hR2).res 12
    have fb := blk_free (hR2).box
    have fr := blk_free (hR2).res
    replace hR2 := Lib.hid hR2; replace hb2 := Lib.hid hb2
    go_wp2
    refine bodyPost_ret (v := .tuple #[(⟨⟨user, part, nodes, ⟨da, db, dc, dd⟩, wall, prio, array, m, held, after⟩, so, n, cp⟩ : Spv).val, .bool true]) (by simp [results, Tryz.results115, go_sem, x0, x1, x2, x3, x4, x5, x6, x7, x8, x9, x10, x11, x12]) rfl ⟨⟨⟨user, part, nodes, ⟨da, db, dc, dd⟩, wall, prio, array, m, held, after⟩, so, n, cp⟩, true, rfl, rlow13 (hR2.out.low.setCell (Nat.le_refl _) _) _ _ _ _ _ _ _ _ _ _ _ _ _, hz.out, (fun _ => ⟨hx.out.after.low (rlow13 (hR2.out.low.setCell (Nat.le_refl _) _) _ _ _ _ _ _ _ _ _ _ _ _ _), hx.out.ple, hx.out.user, hx.out.part⟩), .inl rfl⟩
set_option maxRecDepth 100000 in
set_option maxHeartbeats 3200000 in
theorem rset_held (v : ByteArray) (x : Spv) (w : World) (hx : x.ok w) : Calls Tryz.prog 115 #[x.val, .int .i64 8, .string v] w (RsetPost x kHeld v w) := by
  obtain ⟨⟨user, part, nodes, ⟨da, db, dc, dd⟩, wall, prio, array, retries, held, after⟩, so, n, cp⟩ := x
  have hR := RsW.new w ⟨⟨user, part, nodes, ⟨da, db, dc, dd⟩, wall, prio, array, retries, true, after⟩, so, n, cp⟩
  have hlow : ∀ c, Below w.heap.size w ((w.alloc (.cells (⟨⟨user, part, nodes, ⟨da, db, dc, dd⟩, wall, prio, array, retries, true, after⟩, so, n, cp⟩ : Spv).cells 26 (0, 0))).alloc (.cells c 26 (0, 0))) := fun c => ((Below.refl _ _).alloc (Nat.le_refl _) _).alloc (by simp) _
  by_cases q : v = { data := #[49] }
  · have hz : setP kHeld v ⟨user, part, nodes, ⟨da, db, dc, dd⟩, wall, prio, array, retries, held, after⟩ = some ⟨user, part, nodes, ⟨da, db, dc, dd⟩, wall, prio, array, retries, true, after⟩ := if_pos q
    subst q
    replace hR := Lib.hid hR; replace hz := Lib.hid hz; replace hx := Lib.hid hx; replace hlow := Lib.hid hlow
    go_enter Tryz.func115, Tryz.ntmps115
    go_wp2
    refine bodyPost_ret (v := .tuple #[(⟨⟨user, part, nodes, ⟨da, db, dc, dd⟩, wall, prio, array, retries, true, after⟩, so, n, cp⟩ : Spv).val, .bool true]) (by simp [results, Tryz.results115, go_sem]) rfl ⟨⟨⟨user, part, nodes, ⟨da, db, dc, dd⟩, wall, prio, array, retries, true, after⟩, so, n, cp⟩, true, rfl, hlow.out _, hz.out, fun _ => ⟨hx.out.after.low (hlow.out _), hx.out.ple, hx.out.user, hx.out.part⟩, .inl rfl⟩
  · have hz : setP kHeld v ⟨user, part, nodes, ⟨da, db, dc, dd⟩, wall, prio, array, retries, held, after⟩ = none := if_neg q
    have d : (v.toList == [49]) = false := key_nel (l := [49]) q
    replace hR := Lib.hid hR; replace hz := Lib.hid hz; replace hx := Lib.hid hx; replace q := Lib.hid q; replace hlow := Lib.hid hlow
    go_enter Tryz.func115, Tryz.ntmps115
    go_wp2
    refine bodyPost_ret (v := .tuple #[(⟨⟨user, part, nodes, ⟨da, db, dc, dd⟩, wall, prio, array, retries, true, after⟩, so, n, cp⟩ : Spv).val, .bool false]) (by simp [results, Tryz.results115, go_sem]) rfl ⟨⟨⟨user, part, nodes, ⟨da, db, dc, dd⟩, wall, prio, array, retries, true, after⟩, so, n, cp⟩, false, rfl, hlow.out _, hz.out, (fun h => by cases h), .inl rfl⟩
end Go.Proofs.YteoihdkaoipocaaGreatDoor

/- corveeref08.set: the amount, the numbers, and all of it. -/
namespace Go.Proofs.YteoihdkaoipocaaGreatDoor
open Go.RowKit Go.Maps Go.Shelf Go.Sort

theorem low_alloc {w W : World} (h : Below w.heap.size w W) (o : Obj) : Below w.heap.size w (W.alloc o) := h.alloc h.size o
theorem setP_demR (v : ByteArray) (s : Spp) : setP kDemand v s = if (vecOf v).2 = 0 ∧ (vecOf v).1 ≠ V4.zero then some { s with dem := (vecOf v).1 } else none := rfl
theorem demOk_vec {v : ByteArray} (h : (vecOf v).2 = 0) : demOk (vecOf v).1 = decide ((vecOf v).1 ≠ V4.zero) := by unfold demOk; rw [vecOf_right h]; simp
set_option maxRecDepth 100000 in
set_option maxHeartbeats 3200000 in
theorem rset_demand (v : ByteArray) (x : Spv) (w : World) (hx : x.ok w) (hv : v.size ≤ 4294967200) : Calls Tryz.prog 115 #[x.val, .int .i64 3, .string v] w (RsetPost x kDemand v w) := by
  obtain ⟨⟨user, part, nodes, ⟨da, db, dc, dd⟩, wall, prio, array, retries, held, after⟩, so, n, cp⟩ := x
  have hR := RsW.new w ⟨⟨user, part, nodes, ⟨da, db, dc, dd⟩, wall, prio, array, retries, held, after⟩, so, n, cp⟩
  have hcv := rvread_any v (BW w ⟨⟨user, part, nodes, ⟨da, db, dc, dd⟩, wall, prio, array, retries, held, after⟩, so, n, cp⟩) hv
  have hz0 := setP_demR v ⟨user, part, nodes, ⟨da, db, dc, dd⟩, wall, prio, array, retries, held, after⟩
  have hdo := @demOk_vec v
  obtain ⟨u, hu⟩ : ∃ u, u = (vecOf v).1 := ⟨_, rfl⟩
  obtain ⟨r, hr⟩ : ∃ r, r = (vecOf v).2 := ⟨_, rfl⟩
  rw [← hu, ← hr] at hcv hz0 hdo
  obtain ⟨ua, ub, uc, ud⟩ := u
  have hcd := fun W => demand_any ⟨ua, ub, uc, ud⟩ W
  obtain ⟨q, hq⟩ : ∃ q, q = demOk ⟨ua, ub, uc, ud⟩ := ⟨_, rfl⟩
  rw [← hq] at hcd hdo
  replace hR := Lib.hid hR; replace hcv := Lib.hid hcv; replace hz0 := Lib.hid hz0; replace hdo := Lib.hid hdo; replace hu := Lib.hid hu; replace hr := Lib.hid hr; replace hq := Lib.hid hq; replace hcd := Lib.hid hcd; replace hx := Lib.hid hx; replace hv := Lib.hid hv
  go_enter Tryz.func115, Tryz.ntmps115
  go_wp2_with fail
  refine hcv.out.mono ?_
  rintro e w2 ⟨rfl, hb2⟩
  have hR2 := hR.out.on hb2
  have hq0 : RsW w ⟨⟨user, part, nodes, ⟨ua, db, dc, dd⟩, wall, prio, array, retries, held, after⟩, so, n, cp⟩ (w2.setCell ⟨w.heap.size, 3, none⟩ (.int .i64 ua)) := RsW.set hR2 3 (.int .i64 ua) rfl
  have hq1 : RsW w ⟨⟨user, part, nodes, ⟨ua, ub, dc, dd⟩, wall, prio, array, retries, held, after⟩, so, n, cp⟩ ((w2.setCell ⟨w.heap.size, 3, none⟩ (.int .i64 ua)).setCell ⟨w.heap.size, 4, none⟩ (.int .i64 ub)) := RsW.set hq0 4 (.int .i64 ub) rfl
  have hq2 : RsW w ⟨⟨user, part, nodes, ⟨ua, ub, uc, dd⟩, wall, prio, array, retries, held, after⟩, so, n, cp⟩ (((w2.setCell ⟨w.heap.size, 3, none⟩ (.int .i64 ua)).setCell ⟨w.heap.size, 4, none⟩ (.int .i64 ub)).setCell ⟨w.heap.size, 5, none⟩ (.int .i64 uc)) := RsW.set hq1 5 (.int .i64 uc) rfl
  have hq3 : RsW w ⟨⟨user, part, nodes, ⟨ua, ub, uc, ud⟩, wall, prio, array, retries, held, after⟩, so, n, cp⟩ ((((w2.setCell ⟨w.heap.size, 3, none⟩ (.int .i64 ua)).setCell ⟨w.heap.size, 4, none⟩ (.int .i64 ub)).setCell ⟨w.heap.size, 5, none⟩ (.int .i64 uc)).setCell ⟨w.heap.size, 6, none⟩ (.int .i64 ud)) := RsW.set hq2 6 (.int .i64 ud) rfl
  have hR3 : RsW w ⟨⟨user, part, nodes, ⟨ua, ub, uc, ud⟩, wall, prio, array, retries, held, after⟩, so, n, cp⟩ (((((w2.setCell ⟨w.heap.size, 3, none⟩ (.int .i64 ua)).setCell ⟨w.heap.size, 4, none⟩ (.int .i64 ub)).setCell ⟨w.heap.size, 5, none⟩ (.int .i64 uc)).setCell ⟨w.heap.size, 6, none⟩ (.int .i64 ud)).alloc (.cells #[.int .i64 ua, .int .i64 ub, .int .i64 uc, .int .i64 ud] 23 (0, 0))) := hq3.on ((Below.refl _ _).alloc (Nat.le_refl _) _)
  have a0 : w2.heap.size ≠ w.heap.size := by have := hR2.low.size; have := blk_lt hR2.box; omega
  have hlt2 := blk_lt hR2.box
  have hlt3 := blk_lt hR2.res
  have y0 : w2.cell? ⟨w.heap.size, 0, none⟩ = some (.string user) := blk_cell (hR2).box 0
  have y1 : w2.cell? ⟨w.heap.size, 1, none⟩ = some (.string part) := blk_cell (hR2).box 1
  have y2 : w2.cell? ⟨w.heap.size, 2, none⟩ = some (.int .i64 nodes) := blk_cell (hR2).box 2
  have y3 : w2.cell? ⟨w.heap.size, 3, none⟩ = some (.int .i64 da) := blk_cell (hR2).box 3
  have y4 : w2.cell? ⟨w.heap.size, 4, none⟩ = some (.int .i64 db) := blk_cell (hR2).box 4
  have y5 : w2.cell? ⟨w.heap.size, 5, none⟩ = some (.int .i64 dc) := blk_cell (hR2).box 5
  have y6 : w2.cell? ⟨w.heap.size, 6, none⟩ = some (.int .i64 dd) := blk_cell (hR2).box 6
  have y7 : w2.cell? ⟨w.heap.size, 7, none⟩ = some (.int .i64 wall) := blk_cell (hR2).box 7
  have y8 : w2.cell? ⟨w.heap.size, 8, none⟩ = some (.int .i64 prio) := blk_cell (hR2).box 8
  have y9 : w2.cell? ⟨w.heap.size, 9, none⟩ = some (.int .i64 array) := blk_cell (hR2).box 9
  have y10 : w2.cell? ⟨w.heap.size, 10, none⟩ = some (.int .i64 retries) := blk_cell (hR2).box 10
  have y11 : w2.cell? ⟨w.heap.size, 11, none⟩ = some (.bool held) := blk_cell (hR2).box 11
  have y12 : w2.cell? ⟨w.heap.size, 12, none⟩ = some (.slice so n cp) := blk_cell (hR2).box 12
  have x0 : w2.cell? ⟨w.heap.size + 1, 0, none⟩ = some (.string ByteArray.empty) := blk_cell (hR2).res 0
  have x1 : w2.cell? ⟨w.heap.size + 1, 1, none⟩ = some (.string ByteArray.empty) := blk_cell (hR2).res 1
  have x2 : w2.cell? ⟨w.heap.size + 1, 2, none⟩ = some (.int .i64 0) := blk_cell (hR2).res 2
  have x3 : w2.cell? ⟨w.heap.size + 1, 3, none⟩ = some (.int .i64 0) := blk_cell (hR2).res 3
  have x4 : w2.cell? ⟨w.heap.size + 1, 4, none⟩ = some (.int .i64 0) := blk_cell (hR2).res 4
  have x5 : w2.cell? ⟨w.heap.size + 1, 5, none⟩ = some (.int .i64 0) := blk_cell (hR2).res 5
  have x6 : w2.cell? ⟨w.heap.size + 1, 6, none⟩ = some (.int .i64 0) := blk_cell (hR2).res 6
  have x7 : w2.cell? ⟨w.heap.size + 1, 7, none⟩ = some (.int .i64 0) := blk_cell (hR2).res 7
  have x8 : w2.cell? ⟨w.heap.size + 1, 8, none⟩ = some (.int .i64 0) := blk_cell (hR2).res 8
  have x9 : w2.cell? ⟨w.heap.size + 1, 9, none⟩ = some (.int .i64 0) := blk_cell (hR2).res 9
  have x10 : w2.cell? ⟨w.heap.size + 1, 10, none⟩ = some (.int .i64 0) := blk_cell (hR2).res 10
  have x11 : w2.cell? ⟨w.heap.size + 1, 11, none⟩ = some (.bool false) := blk_cell (hR2).res 11
  have x12 : w2.cell? ⟨w.heap.size + 1, 12, none⟩ = some (.slice none 0 0) := blk_cell (hR2).res 12
  have fb := blk_free (hR2).box
  have fr := blk_free (hR2).res
  replace hR2 := Lib.hid hR2; replace hR3 := Lib.hid hR3; replace hb2 := Lib.hid hb2; replace hq0 := Lib.hid hq0; replace hq1 := Lib.hid hq1; replace hq2 := Lib.hid hq2; replace hq3 := Lib.hid hq3
  by_cases r0 : r = 0
  · have d : (r == 0) = true := by simp [r0]
    clear x0 x1 x2 x3 x4 x5 x6 x7 x8 x9 x10 x11 x12 fr
    go_wp2_with fail
    refine (hcd.out _).mono ?_
    rintro e w4 ⟨rfl, hb4⟩
    clear y0 y1 y2 y3 y4 y5 y6 y7 y8 y9 y10 y11 y12 fb
    have hR4 := hR3.out.on hb4
    have y0 : w4.cell? ⟨w.heap.size, 0, none⟩ = some (.string user) := blk_cell (hR4).box 0
    have y1 : w4.cell? ⟨w.heap.size, 1, none⟩ = some (.string part) := blk_cell (hR4).box 1
    have y2 : w4.cell? ⟨w.heap.size, 2, none⟩ = some (.int .i64 nodes) := blk_cell (hR4).box 2
    have y3 : w4.cell? ⟨w.heap.size, 3, none⟩ = some (.int .i64 ua) := blk_cell (hR4).box 3
    have y4 : w4.cell? ⟨w.heap.size, 4, none⟩ = some (.int .i64 ub) := blk_cell (hR4).box 4
    have y5 : w4.cell? ⟨w.heap.size, 5, none⟩ = some (.int .i64 uc) := blk_cell (hR4).box 5
    have y6 : w4.cell? ⟨w.heap.size, 6, none⟩ = some (.int .i64 ud) := blk_cell (hR4).box 6
    have y7 : w4.cell? ⟨w.heap.size, 7, none⟩ = some (.int .i64 wall) := blk_cell (hR4).box 7
    have y8 : w4.cell? ⟨w.heap.size, 8, none⟩ = some (.int .i64 prio) := blk_cell (hR4).box 8
    have y9 : w4.cell? ⟨w.heap.size, 9, none⟩ = some (.int .i64 array) := blk_cell (hR4).box 9
    have y10 : w4.cell? ⟨w.heap.size, 10, none⟩ = some (.int .i64 retries) := blk_cell (hR4).box 10
    have y11 : w4.cell? ⟨w.heap.size, 11, none⟩ = some (.bool held) := blk_cell (hR4).box 11
    have y12 : w4.cell? ⟨w.heap.size, 12, none⟩ = some (.slice so n cp) := blk_cell (hR4).box 12
    have x0 : w4.cell? ⟨w.heap.size + 1, 0, none⟩ = some (.string ByteArray.empty) := blk_cell (hR4).res 0
    have x1 : w4.cell? ⟨w.heap.size + 1, 1, none⟩ = some (.string ByteArray.empty) := blk_cell (hR4).res 1
    have x2 : w4.cell? ⟨w.heap.size + 1, 2, none⟩ = some (.int .i64 0) := blk_cell (hR4).res 2
    have x3 : w4.cell? ⟨w.heap.size + 1, 3, none⟩ = some (.int .i64 0) := blk_cell (hR4).res 3
    have x4 : w4.cell? ⟨w.heap.size + 1, 4, none⟩ = some (.int .i64 0) := blk_cell (hR4).res 4
    have x5 : w4.cell? ⟨w.heap.size + 1, 5, none⟩ = some (.int .i64 0) := blk_cell (hR4).res 5
    have x6 : w4.cell? ⟨w.heap.size + 1, 6, none⟩ = some (.int .i64 0) := blk_cell (hR4).res 6
    have x7 : w4.cell? ⟨w.heap.size + 1, 7, none⟩ = some (.int .i64 0) := blk_cell (hR4).res 7
    have x8 : w4.cell? ⟨w.heap.size + 1, 8, none⟩ = some (.int .i64 0) := blk_cell (hR4).res 8
    have x9 : w4.cell? ⟨w.heap.size + 1, 9, none⟩ = some (.int .i64 0) := blk_cell (hR4).res 9
    have x10 : w4.cell? ⟨w.heap.size + 1, 10, none⟩ = some (.int .i64 0) := blk_cell (hR4).res 10
    have x11 : w4.cell? ⟨w.heap.size + 1, 11, none⟩ = some (.bool false) := blk_cell (hR4).res 11
    have x12 : w4.cell? ⟨w.heap.size + 1, 12, none⟩ = some (.slice none 0 0) := blk_cell (hR4).res 12
    have fb := blk_free (hR4).box
    have fr := blk_free (hR4).res
    replace hR4 := Lib.hid hR4; replace hb4 := Lib.hid hb4
    cases q with
    | false =>
      have hz : setP kDemand v ⟨user, part, nodes, ⟨da, db, dc, dd⟩, wall, prio, array, retries, held, after⟩ = none := by
        rw [hz0.out, if_neg]
        intro c
        have := hdo.out r0
        rw [decide_eq_true c.2] at this
        cases this
      replace hz := Lib.hid hz; replace r0 := Lib.hid r0
      go_wp2
      refine bodyPost_ret (v := .tuple #[(⟨⟨user, part, nodes, ⟨ua, ub, uc, ud⟩, wall, prio, array, retries, held, after⟩, so, n, cp⟩ : Spv).val, .bool false]) (by simp [results, Tryz.results115, go_sem, x0, x1, x2, x3, x4, x5, x6, x7, x8, x9, x10, x11, x12]) rfl ⟨⟨⟨user, part, nodes, ⟨ua, ub, uc, ud⟩, wall, prio, array, retries, held, after⟩, so, n, cp⟩, false, rfl, rlow13 (hR4.out.low) _ _ _ _ _ _ _ _ _ _ _ _ _, hz.out, (fun h => by cases h), .inl rfl⟩
    | true =>
      have hz : setP kDemand v ⟨user, part, nodes, ⟨da, db, dc, dd⟩, wall, prio, array, retries, held, after⟩ = some ⟨user, part, nodes, ⟨ua, ub, uc, ud⟩, wall, prio, array, retries, held, after⟩ := by
        rw [hz0.out, if_pos ⟨r0, of_decide_eq_true (hdo.out r0).symm⟩]
      replace hz := Lib.hid hz; replace r0 := Lib.hid r0
      go_wp2
      refine bodyPost_ret (v := .tuple #[(⟨⟨user, part, nodes, ⟨ua, ub, uc, ud⟩, wall, prio, array, retries, held, after⟩, so, n, cp⟩ : Spv).val, .bool true]) (by simp [results, Tryz.results115, go_sem, x0, x1, x2, x3, x4, x5, x6, x7, x8, x9, x10, x11, x12]) rfl ⟨⟨⟨user, part, nodes, ⟨ua, ub, uc, ud⟩, wall, prio, array, retries, held, after⟩, so, n, cp⟩, true, rfl, rlow13 (hR4.out.low) _ _ _ _ _ _ _ _ _ _ _ _ _, hz.out, (fun _ => ⟨hx.out.after.low (rlow13 hR4.out.low _ _ _ _ _ _ _ _ _ _ _ _ _), hx.out.ple, hx.out.user, hx.out.part⟩), .inl rfl⟩
  · have d : (r == 0) = false := by simp [r0]
    have hz : setP kDemand v ⟨user, part, nodes, ⟨da, db, dc, dd⟩, wall, prio, array, retries, held, after⟩ = none := by
      rw [hz0.out, if_neg]
      intro c
      exact r0 c.1
    replace hz := Lib.hid hz; replace r0 := Lib.hid r0
    go_wp2
    refine bodyPost_ret (v := .tuple #[(⟨⟨user, part, nodes, ⟨ua, ub, uc, ud⟩, wall, prio, array, retries, held, after⟩, so, n, cp⟩ : Spv).val, .bool false]) (by simp [results, Tryz.results115, go_sem, x0, x1, x2, x3, x4, x5, x6, x7, x8, x9, x10, x11, x12, hlt3]) rfl ⟨⟨⟨user, part, nodes, ⟨ua, ub, uc, ud⟩, wall, prio, array, retries, held, after⟩, so, n, cp⟩, false, rfl, low_alloc (rlow13 hq3.out.low _ _ _ _ _ _ _ _ _ _ _ _ _) _, hz.out, (fun h => by cases h), .inl rfl⟩
set_option maxRecDepth 100000 in
set_option maxHeartbeats 3200000 in
theorem rset_after (v : ByteArray) (x : Spv) (w : World) (hx : x.ok w) (hv : v.size ≤ 4294967200) : Calls Tryz.prog 115 #[x.val, .int .i64 9, .string v] w (RsetPost x kAfter v w) := by
  obtain ⟨⟨user, part, nodes, ⟨da, db, dc, dd⟩, wall, prio, array, retries, held, after⟩, so, n, cp⟩ := x
  have hR := RsW.new w ⟨⟨user, part, nodes, ⟨da, db, dc, dd⟩, wall, prio, array, retries, held, after⟩, so, n, cp⟩
  have hcv := rrow_any v (BW w ⟨⟨user, part, nodes, ⟨da, db, dc, dd⟩, wall, prio, array, retries, held, after⟩, so, n, cp⟩) hv
  replace hR := Lib.hid hR; replace hcv := Lib.hid hcv; replace hx := Lib.hid hx; replace hv := Lib.hid hv
  go_enter Tryz.func115, Tryz.ntmps115
  go_wp2_with fail
  refine hcv.out.mono ?_
  rintro e w2 ⟨hb2, so2, n2, c2, l, b, rfl, hnc, hi, hfr, hrow⟩
  have hR2 := hR.out.on hb2
  have hR3 : RsW w ⟨⟨user, part, nodes, ⟨da, db, dc, dd⟩, wall, prio, array, retries, held, l⟩, so2, n2, c2⟩ (w2.setCell ⟨w.heap.size, 12, none⟩ (.slice so2 n2 c2)) := RsW.set hR2 12 _ rfl
  have hz : setP kAfter v ⟨user, part, nodes, ⟨da, db, dc, dd⟩, wall, prio, array, retries, held, after⟩ = if b = true then some ⟨user, part, nodes, ⟨da, db, dc, dd⟩, wall, prio, array, retries, held, l⟩ else none := by
    show (rowN v).map _ = _
    rw [hrow]
    cases b <;> rfl
  have hbs : (BW w ⟨⟨user, part, nodes, ⟨da, db, dc, dd⟩, wall, prio, array, retries, held, after⟩, so, n, cp⟩).heap.size = w.heap.size + 2 := by unfold BW; simp
  have hi3 : IntsAt (w2.setCell ⟨w.heap.size, 12, none⟩ (.slice so2 n2 c2)) so2 n2 l := ints_gb hi (gb_set (gb_refl w2 (some w.heap.size)) _) fun b o e c => by have := (hfr b o e).1; omega
  have hoff : ∀ b o, so2 = some ⟨b, o, none⟩ → b ≠ w.heap.size + 1 := fun b o e c => by have := (hfr b o e).1; omega
  have hfin : ∀ v0 v1 v2 v3 v4 v5 v6 v7 v8 v9 v10 v11 v12, IntsAt (((((((((((((((w2.setCell ⟨w.heap.size, 12, none⟩ (.slice so2 n2 c2)).setCell ⟨w.heap.size + 1, 0, none⟩ v0).setCell ⟨w.heap.size + 1, 1, none⟩ v1).setCell ⟨w.heap.size + 1, 2, none⟩ v2).setCell ⟨w.heap.size + 1, 3, none⟩ v3).setCell ⟨w.heap.size + 1, 4, none⟩ v4).setCell ⟨w.heap.size + 1, 5, none⟩ v5).setCell ⟨w.heap.size + 1, 6, none⟩ v6).setCell ⟨w.heap.size + 1, 7, none⟩ v7).setCell ⟨w.heap.size + 1, 8, none⟩ v8).setCell ⟨w.heap.size + 1, 9, none⟩ v9).setCell ⟨w.heap.size + 1, 10, none⟩ v10).setCell ⟨w.heap.size + 1, 11, none⟩ v11).setCell ⟨w.heap.size + 1, 12, none⟩ v12)) so2 n2 l := fun v0 v1 v2 v3 v4 v5 v6 v7 v8 v9 v10 v11 v12 => ints_gb hi3 (rgb13 w _ v0 v1 v2 v3 v4 v5 v6 v7 v8 v9 v10 v11 v12) hoff
  have y0 : w2.cell? ⟨w.heap.size, 0, none⟩ = some (.string user) := blk_cell (hR2).box 0
  have y1 : w2.cell? ⟨w.heap.size, 1, none⟩ = some (.string part) := blk_cell (hR2).box 1
  have y2 : w2.cell? ⟨w.heap.size, 2, none⟩ = some (.int .i64 nodes) := blk_cell (hR2).box 2
  have y3 : w2.cell? ⟨w.heap.size, 3, none⟩ = some (.int .i64 da) := blk_cell (hR2).box 3
  have y4 : w2.cell? ⟨w.heap.size, 4, none⟩ = some (.int .i64 db) := blk_cell (hR2).box 4
  have y5 : w2.cell? ⟨w.heap.size, 5, none⟩ = some (.int .i64 dc) := blk_cell (hR2).box 5
  have y6 : w2.cell? ⟨w.heap.size, 6, none⟩ = some (.int .i64 dd) := blk_cell (hR2).box 6
  have y7 : w2.cell? ⟨w.heap.size, 7, none⟩ = some (.int .i64 wall) := blk_cell (hR2).box 7
  have y8 : w2.cell? ⟨w.heap.size, 8, none⟩ = some (.int .i64 prio) := blk_cell (hR2).box 8
  have y9 : w2.cell? ⟨w.heap.size, 9, none⟩ = some (.int .i64 array) := blk_cell (hR2).box 9
  have y10 : w2.cell? ⟨w.heap.size, 10, none⟩ = some (.int .i64 retries) := blk_cell (hR2).box 10
  have y11 : w2.cell? ⟨w.heap.size, 11, none⟩ = some (.bool held) := blk_cell (hR2).box 11
  have y12 : w2.cell? ⟨w.heap.size, 12, none⟩ = some (.slice so n cp) := blk_cell (hR2).box 12
  have x0 : w2.cell? ⟨w.heap.size + 1, 0, none⟩ = some (.string ByteArray.empty) := blk_cell (hR2).res 0
  have x1 : w2.cell? ⟨w.heap.size + 1, 1, none⟩ = some (.string ByteArray.empty) := blk_cell (hR2).res 1
  have x2 : w2.cell? ⟨w.heap.size + 1, 2, none⟩ = some (.int .i64 0) := blk_cell (hR2).res 2
  have x3 : w2.cell? ⟨w.heap.size + 1, 3, none⟩ = some (.int .i64 0) := blk_cell (hR2).res 3
  have x4 : w2.cell? ⟨w.heap.size + 1, 4, none⟩ = some (.int .i64 0) := blk_cell (hR2).res 4
  have x5 : w2.cell? ⟨w.heap.size + 1, 5, none⟩ = some (.int .i64 0) := blk_cell (hR2).res 5
  have x6 : w2.cell? ⟨w.heap.size + 1, 6, none⟩ = some (.int .i64 0) := blk_cell (hR2).res 6
  have x7 : w2.cell? ⟨w.heap.size + 1, 7, none⟩ = some (.int .i64 0) := blk_cell (hR2).res 7
  have x8 : w2.cell? ⟨w.heap.size + 1, 8, none⟩ = some (.int .i64 0) := blk_cell (hR2).res 8
  have x9 : w2.cell? ⟨w.heap.size + 1, 9, none⟩ = some (.int .i64 0) := blk_cell (hR2).res 9
  have x10 : w2.cell? ⟨w.heap.size + 1, 10, none⟩ = some (.int .i64 0) := blk_cell (hR2).res 10
  have x11 : w2.cell? ⟨w.heap.size + 1, 11, none⟩ = some (.bool false) := blk_cell (hR2).res 11
  have x12 : w2.cell? ⟨w.heap.size + 1, 12, none⟩ = some (.slice none 0 0) := blk_cell (hR2).res 12
  have fb := blk_free (hR2).box
  have fr := blk_free (hR2).res
  have hfr3 : ∀ v0 v1 v2 v3 v4 v5 v6 v7 v8 v9 v10 v11 v12, ∀ b o, so2 = some ⟨b, o, none⟩ → w.heap.size ≤ b ∧ b < ((((((((((((((w2.setCell ⟨w.heap.size, 12, none⟩ (.slice so2 n2 c2)).setCell ⟨w.heap.size + 1, 0, none⟩ v0).setCell ⟨w.heap.size + 1, 1, none⟩ v1).setCell ⟨w.heap.size + 1, 2, none⟩ v2).setCell ⟨w.heap.size + 1, 3, none⟩ v3).setCell ⟨w.heap.size + 1, 4, none⟩ v4).setCell ⟨w.heap.size + 1, 5, none⟩ v5).setCell ⟨w.heap.size + 1, 6, none⟩ v6).setCell ⟨w.heap.size + 1, 7, none⟩ v7).setCell ⟨w.heap.size + 1, 8, none⟩ v8).setCell ⟨w.heap.size + 1, 9, none⟩ v9).setCell ⟨w.heap.size + 1, 10, none⟩ v10).setCell ⟨w.heap.size + 1, 11, none⟩ v11).setCell ⟨w.heap.size + 1, 12, none⟩ v12).heap.size := fun v0 v1 v2 v3 v4 v5 v6 v7 v8 v9 v10 v11 v12 b o e => ⟨by have := (hfr b o e).1; omega, Nat.lt_of_lt_of_le (hfr b o e).2 (Nat.le_trans (gb_set (gb_refl w2 (some w.heap.size)) (o := 12) (.slice so2 n2 c2)).size (rgb13 w (w2.setCell ⟨w.heap.size, 12, none⟩ (.slice so2 n2 c2)) v0 v1 v2 v3 v4 v5 v6 v7 v8 v9 v10 v11 v12).size)⟩
  replace hR2 := Lib.hid hR2; replace hR3 := Lib.hid hR3; replace hb2 := Lib.hid hb2; replace hnc := Lib.hid hnc; replace hi := Lib.hid hi; replace hfr := Lib.hid hfr; replace hrow := Lib.hid hrow; replace hz := Lib.hid hz; replace hi3 := Lib.hid hi3; replace hoff := Lib.hid hoff; replace hbs := Lib.hid hbs; replace hfin := Lib.hid hfin; replace hfr3 := Lib.hid hfr3
  cases b with
  | false =>
    go_wp2
    refine bodyPost_ret (v := .tuple #[(⟨⟨user, part, nodes, ⟨da, db, dc, dd⟩, wall, prio, array, retries, held, l⟩, so2, n2, c2⟩ : Spv).val, .bool false]) (by simp [results, Tryz.results115, go_sem, x0, x1, x2, x3, x4, x5, x6, x7, x8, x9, x10, x11, x12]) rfl ⟨⟨⟨user, part, nodes, ⟨da, db, dc, dd⟩, wall, prio, array, retries, held, l⟩, so2, n2, c2⟩, false, rfl, rlow13 (hR3.out.low) _ _ _ _ _ _ _ _ _ _ _ _ _, hz.out, (fun h => by cases h), .inr (hfr3.out _ _ _ _ _ _ _ _ _ _ _ _ _)⟩
  | true =>
    go_wp2
    refine bodyPost_ret (v := .tuple #[(⟨⟨user, part, nodes, ⟨da, db, dc, dd⟩, wall, prio, array, retries, held, l⟩, so2, n2, c2⟩ : Spv).val, .bool true]) (by simp [results, Tryz.results115, go_sem, x0, x1, x2, x3, x4, x5, x6, x7, x8, x9, x10, x11, x12]) rfl ⟨⟨⟨user, part, nodes, ⟨da, db, dc, dd⟩, wall, prio, array, retries, held, l⟩, so2, n2, c2⟩, true, rfl, rlow13 (hR3.out.low) _ _ _ _ _ _ _ _ _ _ _ _ _, hz.out, (fun _ => ⟨hfin.out _ _ _ _ _ _ _ _ _ _ _ _ _, hnc.out, hx.out.user, hx.out.part⟩), .inr (hfr3.out _ _ _ _ _ _ _ _ _ _ _ _ _)⟩
theorem rset_any (j : Nat) (k v : ByteArray) (x : Spv) (w : World) (hk : keysL[j]? = some k) (hx : x.ok w) (hv : v.size ≤ 4294967200) : Calls Tryz.prog 115 #[x.val, .int .i64 (j : Int), .string v] w (RsetPost x k v w) := by
  have hv2 : v.size ≤ maxLen := by have : maxLen = 9223372036854775807 := rfl; omega
  have hj : j < 10 := (List.getElem?_eq_some_iff.1 hk).1
  rcases (show j = 0 ∨ j = 1 ∨ j = 2 ∨ j = 3 ∨ j = 4 ∨ j = 5 ∨ j = 6 ∨ j = 7 ∨ j = 8 ∨ j = 9 by omega) with rfl | rfl | rfl | rfl | rfl | rfl | rfl | rfl | rfl | rfl
  all_goals
    have e := Option.some.inj hk
    subst e
  · exact rset_user v x w hx hv2
  · exact rset_part v x w hx hv2
  · exact rset_nodes v x w hx hv2
  · exact rset_demand v x w hx hv
  · exact rset_wall v x w hx hv2
  · exact rset_prio v x w hx hv2
  · exact rset_array v x w hx hv2
  · exact rset_retries v x w hx hv2
  · exact rset_held v x w hx
  · exact rset_after v x w hx hv
end Go.Proofs.YteoihdkaoipocaaGreatDoor

/- corveeref08.Parse: what a text asks for, as the document tells it. -/
namespace Go.Proofs.YteoihdkaoipocaaGreatDoor
open Go.RowKit Go.Maps Go.Shelf Go.Sort

def keyAt (i : Int) : ByteArray := keysL.getD i.toNat ByteArray.empty
theorem keysL_nodup : ∀ i : Nat, i < 10 → ∀ j : Nat, j < 10 → keysL[i]? = keysL[j]? → i = j := by decide
theorem keyAt_inj {i j : Int} (h0 : 0 ≤ i) (h1 : i < 10) (h2 : 0 ≤ j) (h3 : j < 10) (h : keyAt i = keyAt j) : i = j := by
  unfold keyAt at h
  have e := keysL_nodup i.toNat (by omega) j.toNat (by omega) (by
    have a : i.toNat < keysL.length := by show _ < 10; omega
    have b : j.toNat < keysL.length := by show _ < 10; omega
    rw [List.getElem?_eq_getElem a, List.getElem?_eq_getElem b]
    rw [List.getD, List.getD, List.getElem?_eq_getElem a, List.getElem?_eq_getElem b] at h
    exact congrArg some h)
  omega
/-- the numbers of the keys met -/
structure MetI (met : List ByteArray) (zs : List Int) : Prop where
  eq : met = zs.map keyAt
  bd : ∀ z, z ∈ zs → 0 ≤ z ∧ z < 10
theorem MetI.mem {met : List ByteArray} {zs : List Int} (h : MetI met zs) {j : Int} (h0 : 0 ≤ j) (h1 : j < 10) : memI zs j = memB met (keyAt j) := by
  rw [Bool.eq_iff_iff, memI_iff, memB_iff, h.eq, List.mem_map]
  constructor
  · intro hm; exact ⟨j, hm, rfl⟩
  · rintro ⟨z, hz, e⟩
    have := h.bd z hz
    rw [← keyAt_inj this.1 this.2 h0 h1 e]; exact hz
theorem MetI.snoc {met : List ByteArray} {zs : List Int} (h : MetI met zs) {j : Nat} {k : ByteArray} (hk : keysL[j]? = some k) : MetI (met ++ [k]) (zs ++ [(j : Int)]) := by
  have hj : j < 10 := (List.getElem?_eq_some_iff.1 hk).1
  refine ⟨?_, fun z hz => ?_⟩
  · rw [List.map_append, ← h.eq]
    have : keyAt (j : Int) = k := by
      unfold keyAt
      rw [List.getD, show ((j : Int)).toNat = j by omega, hk]; rfl
    simp [this]
  · rcases List.mem_append.1 hz with hz | hz
    · exact h.bd z hz
    · have : z = j := by simpa using hz
      omega

/-- what stands while the document parses -/
structure RqW (w w1 : World) (x : Spv) (zs : List Int) (ov : Value) (W : World) : Prop where
  low : w1.grownBy W (some (w.heap.size + 1))
  lo0 : Below w.heap.size w w1
  res : W.heap[w.heap.size]? = some (.cells Spv.zero.cells 26 (0, 0))
  box : W.heap[w.heap.size + 1]? = some (.cells x.cells 26 (0, 0))
  ok : x.ok W
  own : OwnI W w1.heap.size ov zs
  off : ∀ b o, x.so = some ⟨b, o, none⟩ → w1.heap.size ≤ b ∧ b < W.heap.size ∧ some b ≠ ov.ownBlock
  lt : w.heap.size + 1 < w1.heap.size
/-- a spec stored into a variable -/
abbrev set13 (W : World) (b : Nat) (x : Spv) : World := (((((((((((((W.setCell ⟨b, 0, none⟩ (.string x.pl.user)).setCell ⟨b, 1, none⟩ (.string x.pl.part)).setCell ⟨b, 2, none⟩ (.int .i64 x.pl.nodes)).setCell ⟨b, 3, none⟩ (.int .i64 x.pl.dem.a)).setCell ⟨b, 4, none⟩ (.int .i64 x.pl.dem.b)).setCell ⟨b, 5, none⟩ (.int .i64 x.pl.dem.c)).setCell ⟨b, 6, none⟩ (.int .i64 x.pl.dem.d)).setCell ⟨b, 7, none⟩ (.int .i64 x.pl.wall)).setCell ⟨b, 8, none⟩ (.int .i64 x.pl.prio)).setCell ⟨b, 9, none⟩ (.int .i64 x.pl.array)).setCell ⟨b, 10, none⟩ (.int .i64 x.pl.retries)).setCell ⟨b, 11, none⟩ (.bool x.pl.held)).setCell ⟨b, 12, none⟩ (.slice x.so x.n x.c))
theorem set13_box {W : World} {b : Nat} {x y : Spv} (h : W.heap[b]? = some (.cells y.cells 26 (0, 0))) : (set13 W b x).heap[b]? = some (.cells x.cells 26 (0, 0)) := by
  have h0 : (W.setCell ⟨b, 0, none⟩ (.string x.pl.user)).heap[b]? = some (.cells #[.string x.pl.user, .string y.pl.part, .int .i64 y.pl.nodes, .int .i64 y.pl.dem.a, .int .i64 y.pl.dem.b, .int .i64 y.pl.dem.c, .int .i64 y.pl.dem.d, .int .i64 y.pl.wall, .int .i64 y.pl.prio, .int .i64 y.pl.array, .int .i64 y.pl.retries, .bool y.pl.held, .slice y.so y.n y.c] 26 (0, 0)) := blk_set h 0 _
  have h1 : ((W.setCell ⟨b, 0, none⟩ (.string x.pl.user)).setCell ⟨b, 1, none⟩ (.string x.pl.part)).heap[b]? = some (.cells #[.string x.pl.user, .string x.pl.part, .int .i64 y.pl.nodes, .int .i64 y.pl.dem.a, .int .i64 y.pl.dem.b, .int .i64 y.pl.dem.c, .int .i64 y.pl.dem.d, .int .i64 y.pl.wall, .int .i64 y.pl.prio, .int .i64 y.pl.array, .int .i64 y.pl.retries, .bool y.pl.held, .slice y.so y.n y.c] 26 (0, 0)) := blk_set h0 1 _
  have h2 : (((W.setCell ⟨b, 0, none⟩ (.string x.pl.user)).setCell ⟨b, 1, none⟩ (.string x.pl.part)).setCell ⟨b, 2, none⟩ (.int .i64 x.pl.nodes)).heap[b]? = some (.cells #[.string x.pl.user, .string x.pl.part, .int .i64 x.pl.nodes, .int .i64 y.pl.dem.a, .int .i64 y.pl.dem.b, .int .i64 y.pl.dem.c, .int .i64 y.pl.dem.d, .int .i64 y.pl.wall, .int .i64 y.pl.prio, .int .i64 y.pl.array, .int .i64 y.pl.retries, .bool y.pl.held, .slice y.so y.n y.c] 26 (0, 0)) := blk_set h1 2 _
  have h3 : ((((W.setCell ⟨b, 0, none⟩ (.string x.pl.user)).setCell ⟨b, 1, none⟩ (.string x.pl.part)).setCell ⟨b, 2, none⟩ (.int .i64 x.pl.nodes)).setCell ⟨b, 3, none⟩ (.int .i64 x.pl.dem.a)).heap[b]? = some (.cells #[.string x.pl.user, .string x.pl.part, .int .i64 x.pl.nodes, .int .i64 x.pl.dem.a, .int .i64 y.pl.dem.b, .int .i64 y.pl.dem.c, .int .i64 y.pl.dem.d, .int .i64 y.pl.wall, .int .i64 y.pl.prio, .int .i64 y.pl.array, .int .i64 y.pl.retries, .bool y.pl.held, .slice y.so y.n y.c] 26 (0, 0)) := blk_set h2 3 _
  have h4 : (((((W.setCell ⟨b, 0, none⟩ (.string x.pl.user)).setCell ⟨b, 1, none⟩ (.string x.pl.part)).setCell ⟨b, 2, none⟩ (.int .i64 x.pl.nodes)).setCell ⟨b, 3, none⟩ (.int .i64 x.pl.dem.a)).setCell ⟨b, 4, none⟩ (.int .i64 x.pl.dem.b)).heap[b]? = some (.cells #[.string x.pl.user, .string x.pl.part, .int .i64 x.pl.nodes, .int .i64 x.pl.dem.a, .int .i64 x.pl.dem.b, .int .i64 y.pl.dem.c, .int .i64 y.pl.dem.d, .int .i64 y.pl.wall, .int .i64 y.pl.prio, .int .i64 y.pl.array, .int .i64 y.pl.retries, .bool y.pl.held, .slice y.so y.n y.c] 26 (0, 0)) := blk_set h3 4 _
  have h5 : ((((((W.setCell ⟨b, 0, none⟩ (.string x.pl.user)).setCell ⟨b, 1, none⟩ (.string x.pl.part)).setCell ⟨b, 2, none⟩ (.int .i64 x.pl.nodes)).setCell ⟨b, 3, none⟩ (.int .i64 x.pl.dem.a)).setCell ⟨b, 4, none⟩ (.int .i64 x.pl.dem.b)).setCell ⟨b, 5, none⟩ (.int .i64 x.pl.dem.c)).heap[b]? = some (.cells #[.string x.pl.user, .string x.pl.part, .int .i64 x.pl.nodes, .int .i64 x.pl.dem.a, .int .i64 x.pl.dem.b, .int .i64 x.pl.dem.c, .int .i64 y.pl.dem.d, .int .i64 y.pl.wall, .int .i64 y.pl.prio, .int .i64 y.pl.array, .int .i64 y.pl.retries, .bool y.pl.held, .slice y.so y.n y.c] 26 (0, 0)) := blk_set h4 5 _
  have h6 : (((((((W.setCell ⟨b, 0, none⟩ (.string x.pl.user)).setCell ⟨b, 1, none⟩ (.string x.pl.part)).setCell ⟨b, 2, none⟩ (.int .i64 x.pl.nodes)).setCell ⟨b, 3, none⟩ (.int .i64 x.pl.dem.a)).setCell ⟨b, 4, none⟩ (.int .i64 x.pl.dem.b)).setCell ⟨b, 5, none⟩ (.int .i64 x.pl.dem.c)).setCell ⟨b, 6, none⟩ (.int .i64 x.pl.dem.d)).heap[b]? = some (.cells #[.string x.pl.user, .string x.pl.part, .int .i64 x.pl.nodes, .int .i64 x.pl.dem.a, .int .i64 x.pl.dem.b, .int .i64 x.pl.dem.c, .int .i64 x.pl.dem.d, .int .i64 y.pl.wall, .int .i64 y.pl.prio, .int .i64 y.pl.array, .int .i64 y.pl.retries, .bool y.pl.held, .slice y.so y.n y.c] 26 (0, 0)) := blk_set h5 6 _
  have h7 : ((((((((W.setCell ⟨b, 0, none⟩ (.string x.pl.user)).setCell ⟨b, 1, none⟩ (.string x.pl.part)).setCell ⟨b, 2, none⟩ (.int .i64 x.pl.nodes)).setCell ⟨b, 3, none⟩ (.int .i64 x.pl.dem.a)).setCell ⟨b, 4, none⟩ (.int .i64 x.pl.dem.b)).setCell ⟨b, 5, none⟩ (.int .i64 x.pl.dem.c)).setCell ⟨b, 6, none⟩ (.int .i64 x.pl.dem.d)).setCell ⟨b, 7, none⟩ (.int .i64 x.pl.wall)).heap[b]? = some (.cells #[.string x.pl.user, .string x.pl.part, .int .i64 x.pl.nodes, .int .i64 x.pl.dem.a, .int .i64 x.pl.dem.b, .int .i64 x.pl.dem.c, .int .i64 x.pl.dem.d, .int .i64 x.pl.wall, .int .i64 y.pl.prio, .int .i64 y.pl.array, .int .i64 y.pl.retries, .bool y.pl.held, .slice y.so y.n y.c] 26 (0, 0)) := blk_set h6 7 _
  have h8 : (((((((((W.setCell ⟨b, 0, none⟩ (.string x.pl.user)).setCell ⟨b, 1, none⟩ (.string x.pl.part)).setCell ⟨b, 2, none⟩ (.int .i64 x.pl.nodes)).setCell ⟨b, 3, none⟩ (.int .i64 x.pl.dem.a)).setCell ⟨b, 4, none⟩ (.int .i64 x.pl.dem.b)).setCell ⟨b, 5, none⟩ (.int .i64 x.pl.dem.c)).setCell ⟨b, 6, none⟩ (.int .i64 x.pl.dem.d)).setCell ⟨b, 7, none⟩ (.int .i64 x.pl.wall)).setCell ⟨b, 8, none⟩ (.int .i64 x.pl.prio)).heap[b]? = some (.cells #[.string x.pl.user, .string x.pl.part, .int .i64 x.pl.nodes, .int .i64 x.pl.dem.a, .int .i64 x.pl.dem.b, .int .i64 x.pl.dem.c, .int .i64 x.pl.dem.d, .int .i64 x.pl.wall, .int .i64 x.pl.prio, .int .i64 y.pl.array, .int .i64 y.pl.retries, .bool y.pl.held, .slice y.so y.n y.c] 26 (0, 0)) := blk_set h7 8 _
  have h9 : ((((((((((W.setCell ⟨b, 0, none⟩ (.string x.pl.user)).setCell ⟨b, 1, none⟩ (.string x.pl.part)).setCell ⟨b, 2, none⟩ (.int .i64 x.pl.nodes)).setCell ⟨b, 3, none⟩ (.int .i64 x.pl.dem.a)).setCell ⟨b, 4, none⟩ (.int .i64 x.pl.dem.b)).setCell ⟨b, 5, none⟩ (.int .i64 x.pl.dem.c)).setCell ⟨b, 6, none⟩ (.int .i64 x.pl.dem.d)).setCell ⟨b, 7, none⟩ (.int .i64 x.pl.wall)).setCell ⟨b, 8, none⟩ (.int .i64 x.pl.prio)).setCell ⟨b, 9, none⟩ (.int .i64 x.pl.array)).heap[b]? = some (.cells #[.string x.pl.user, .string x.pl.part, .int .i64 x.pl.nodes, .int .i64 x.pl.dem.a, .int .i64 x.pl.dem.b, .int .i64 x.pl.dem.c, .int .i64 x.pl.dem.d, .int .i64 x.pl.wall, .int .i64 x.pl.prio, .int .i64 x.pl.array, .int .i64 y.pl.retries, .bool y.pl.held, .slice y.so y.n y.c] 26 (0, 0)) := blk_set h8 9 _
  have h10 : (((((((((((W.setCell ⟨b, 0, none⟩ (.string x.pl.user)).setCell ⟨b, 1, none⟩ (.string x.pl.part)).setCell ⟨b, 2, none⟩ (.int .i64 x.pl.nodes)).setCell ⟨b, 3, none⟩ (.int .i64 x.pl.dem.a)).setCell ⟨b, 4, none⟩ (.int .i64 x.pl.dem.b)).setCell ⟨b, 5, none⟩ (.int .i64 x.pl.dem.c)).setCell ⟨b, 6, none⟩ (.int .i64 x.pl.dem.d)).setCell ⟨b, 7, none⟩ (.int .i64 x.pl.wall)).setCell ⟨b, 8, none⟩ (.int .i64 x.pl.prio)).setCell ⟨b, 9, none⟩ (.int .i64 x.pl.array)).setCell ⟨b, 10, none⟩ (.int .i64 x.pl.retries)).heap[b]? = some (.cells #[.string x.pl.user, .string x.pl.part, .int .i64 x.pl.nodes, .int .i64 x.pl.dem.a, .int .i64 x.pl.dem.b, .int .i64 x.pl.dem.c, .int .i64 x.pl.dem.d, .int .i64 x.pl.wall, .int .i64 x.pl.prio, .int .i64 x.pl.array, .int .i64 x.pl.retries, .bool y.pl.held, .slice y.so y.n y.c] 26 (0, 0)) := blk_set h9 10 _
  have h11 : ((((((((((((W.setCell ⟨b, 0, none⟩ (.string x.pl.user)).setCell ⟨b, 1, none⟩ (.string x.pl.part)).setCell ⟨b, 2, none⟩ (.int .i64 x.pl.nodes)).setCell ⟨b, 3, none⟩ (.int .i64 x.pl.dem.a)).setCell ⟨b, 4, none⟩ (.int .i64 x.pl.dem.b)).setCell ⟨b, 5, none⟩ (.int .i64 x.pl.dem.c)).setCell ⟨b, 6, none⟩ (.int .i64 x.pl.dem.d)).setCell ⟨b, 7, none⟩ (.int .i64 x.pl.wall)).setCell ⟨b, 8, none⟩ (.int .i64 x.pl.prio)).setCell ⟨b, 9, none⟩ (.int .i64 x.pl.array)).setCell ⟨b, 10, none⟩ (.int .i64 x.pl.retries)).setCell ⟨b, 11, none⟩ (.bool x.pl.held)).heap[b]? = some (.cells #[.string x.pl.user, .string x.pl.part, .int .i64 x.pl.nodes, .int .i64 x.pl.dem.a, .int .i64 x.pl.dem.b, .int .i64 x.pl.dem.c, .int .i64 x.pl.dem.d, .int .i64 x.pl.wall, .int .i64 x.pl.prio, .int .i64 x.pl.array, .int .i64 x.pl.retries, .bool x.pl.held, .slice y.so y.n y.c] 26 (0, 0)) := blk_set h10 11 _
  have h12 : (((((((((((((W.setCell ⟨b, 0, none⟩ (.string x.pl.user)).setCell ⟨b, 1, none⟩ (.string x.pl.part)).setCell ⟨b, 2, none⟩ (.int .i64 x.pl.nodes)).setCell ⟨b, 3, none⟩ (.int .i64 x.pl.dem.a)).setCell ⟨b, 4, none⟩ (.int .i64 x.pl.dem.b)).setCell ⟨b, 5, none⟩ (.int .i64 x.pl.dem.c)).setCell ⟨b, 6, none⟩ (.int .i64 x.pl.dem.d)).setCell ⟨b, 7, none⟩ (.int .i64 x.pl.wall)).setCell ⟨b, 8, none⟩ (.int .i64 x.pl.prio)).setCell ⟨b, 9, none⟩ (.int .i64 x.pl.array)).setCell ⟨b, 10, none⟩ (.int .i64 x.pl.retries)).setCell ⟨b, 11, none⟩ (.bool x.pl.held)).setCell ⟨b, 12, none⟩ (.slice x.so x.n x.c)).heap[b]? = some (.cells #[.string x.pl.user, .string x.pl.part, .int .i64 x.pl.nodes, .int .i64 x.pl.dem.a, .int .i64 x.pl.dem.b, .int .i64 x.pl.dem.c, .int .i64 x.pl.dem.d, .int .i64 x.pl.wall, .int .i64 x.pl.prio, .int .i64 x.pl.array, .int .i64 x.pl.retries, .bool x.pl.held, .slice x.so x.n x.c] 26 (0, 0)) := blk_set h11 12 _
  exact h12
theorem set13_gb (W : World) (b : Nat) (x : Spv) : W.grownBy (set13 W b x) (some b) := (gb_set (gb_set (gb_set (gb_set (gb_set (gb_set (gb_set (gb_set (gb_set (gb_set (gb_set (gb_set (gb_set (gb_refl W _) _) _) _) _) _) _) _) _) _) _) _) _) _)
theorem set13_other {W : World} {b i : Nat} {x : Spv} {o : Obj} (hi : i ≠ b) (h : W.heap[i]? = some o) : (set13 W b x).heap[i]? = some o := (blk_set_other hi _ (blk_set_other hi _ (blk_set_other hi _ (blk_set_other hi _ (blk_set_other hi _ (blk_set_other hi _ (blk_set_other hi _ (blk_set_other hi _ (blk_set_other hi _ (blk_set_other hi _ (blk_set_other hi _ (blk_set_other hi _ (blk_set_other hi _ h)))))))))))))
theorem set13_size (W : World) (b : Nat) (x : Spv) : (set13 W b x).heap.size = W.heap.size := by simp [World.setCell]
theorem RqW.on {w w1 : World} {x : Spv} {zs : List Int} {ov : Value} {W W' : World} (h : RqW w w1 x zs ov W) (hb : Below W.heap.size W W') : RqW w w1 x zs ov W' :=
  ⟨gb_trans h.low (gb_below hb _), h.lo0, blk_below hb h.res (blk_lt h.res), blk_below hb h.box (blk_lt h.box), h.ok.low hb, ownI_low h.own hb, fun b o e => ⟨(h.off b o e).1, Nat.lt_of_lt_of_le (h.off b o e).2.1 hb.size, (h.off b o e).2.2⟩, h.lt⟩
theorem ownI_gb {w w' : World} {B r : Nat} {v : Value} {xs : List Int} (h : OwnI w B v xs) (hg : w.grownBy w' (some r)) (hr : r < B) : OwnI w' B v xs := by
  refine ⟨h.row.1, ?_⟩
  rcases h.row.2 with ⟨hv, h0⟩ | ⟨g, cap, cur, hv, hgb, hh, hrr⟩
  · exact .inl ⟨hv, h0⟩
  · exact .inr ⟨g, cap, cur, hv, hgb, (hg.block g (blk_lt hh) (fun c => by injection c with c; omega)).trans hh, hrr⟩
theorem RqW.store {w w1 : World} {x x' : Spv} {zs : List Int} {ov : Value} {W : World} (h : RqW w w1 x zs ov W) (hok : x'.ok W) (hoff : ∀ b o, x'.so = some ⟨b, o, none⟩ → w1.heap.size ≤ b ∧ b < W.heap.size ∧ some b ≠ ov.ownBlock) (o : Obj) : RqW w w1 x' zs ov ((set13 W (w.heap.size + 1) x').alloc o) := by
  have hg := set13_gb W (w.heap.size + 1) x'
  have h1 : RqW w w1 x' zs ov (set13 W (w.heap.size + 1) x') :=
    ⟨gb_trans h.low hg, h.lo0, set13_other (by omega) h.res, set13_box h.box, ⟨ints_gb hok.after hg (fun b o e => by have := (hoff b o e).1; have := h.lt; omega), hok.ple, hok.user, hok.part⟩, ownI_gb h.own hg h.lt, fun b o e => ⟨(hoff b o e).1, by rw [set13_size]; exact (hoff b o e).2.1, (hoff b o e).2.2⟩, h.lt⟩
  exact h1.on ((Below.refl _ _).alloc (Nat.le_refl _) o)
theorem RqW.lo {w w1 : World} {x : Spv} {zs : List Int} {ov : Value} {W : World} (h : RqW w w1 x zs ov W) : Below w.heap.size w W := below_gb h.lo0 h.low h.lo0.size (Nat.le_succ _)
theorem RqW.app {w w1 : World} {x : Spv} {zs ys : List Int} {ov ov' : Value} {W W' : World} (h : RqW w w1 x zs ov W) (hg : W.grownBy W' ov.ownBlock) (ho : OwnI W' w1.heap.size ov' ys) (hn : ov'.ownBlock = ov.ownBlock ∨ ov'.ownBlock = some W.heap.size) : RqW w w1 x ys ov' W' := by
  have hne : ∀ i, i < w1.heap.size → some i ≠ ov.ownBlock := fun i hi c => by
    have := (h.own.row.lt i c.symm).1
    omega
  have hz := h.lo0.size
  have hl := h.low.size
  refine ⟨⟨hg.os.trans h.low.os, hg.tape.trans h.low.tape, hg.output.trans h.low.output, Nat.le_trans h.low.size hg.size, fun i hi hn => (hg.block i (by omega) (hne i hi)).trans (h.low.block i hi hn)⟩, h.lo0, (hg.block _ (blk_lt h.res) (hne _ (by have := h.lt; omega))).trans h.res, (hg.block _ (blk_lt h.box) (hne _ h.lt)).trans h.box, ⟨ints_keep h.ok.after hg.size fun b o e hlt => hg.block b hlt (h.off b o e).2.2, h.ok.ple, h.ok.user, h.ok.part⟩, ho, fun b o e => ⟨(h.off b o e).1, Nat.lt_of_lt_of_le (h.off b o e).2.1 hg.size, fun c => ?_⟩, h.lt⟩
  rcases hn with hn | hn
  · rw [hn] at c; exact (h.off b o e).2.2 c
  · rw [hn] at c
    injection c with c
    have := (h.off b o e).2.1
    omega
theorem setP_else {k v : ByteArray} {s : Spp} (hk : k ∉ keysL) : setP k v s = none := by
  simp only [keysL, List.mem_cons, List.not_mem_nil, or_false, not_or] at hk
  obtain ⟨n1, n2, n3, n4, n5, n6, n7, n8, n9, n10⟩ := hk
  unfold setP
  rw [if_neg n1, if_neg n2, if_neg n3, if_neg n4, if_neg n5, if_neg n6, if_neg n7, if_neg n8, if_neg n9, if_neg n10]
theorem rparse_long (t : ByteArray) (w : World) (hlong : 4096 < t.size) : Calls Tryz.prog 93 #[.string t] w (ParsePost t w) := by
  have hz : parseOf t = (Spp.zero, 2, 0) := if_pos hlong
  have d : decide ((4096 : Int) < t.size) = true := decide_eq_true (by omega)
  have d' : decide (4096 < t.size) = true := decide_eq_true hlong
  replace hz := Lib.hid hz; replace hlong := Lib.hid hlong
  go_enter Tryz.func93, Tryz.ntmps93
  go_wp2
  refine bodyPost_ret (v := .tuple #[Spv.zero.val, .int .i64 2, .int .i64 0]) (by simp [results, Tryz.results93, go_sem, Spv.zero, Spp.zero, V4.zero]; rfl) rfl ⟨Spv.zero, by rw [hz.out], Spv.zero_ok _, by rw [hz.out]; rfl, ?_, fun b o e => by cases e⟩
  exact (Below.refl _ _).alloc (Nat.le_refl _) _
set_option maxRecDepth 100000 in
set_option maxHeartbeats 3200000 in
theorem rparse_short (t : ByteArray) (w : World) (hshort : ¬ 4096 < t.size) : Calls Tryz.prog 93 #[.string t] w (ParsePost t w) := by
  obtain ⟨i3, hi3, hz3, hz31, hz32⟩ := info_parts info3
  have hpo : parseOf t = endP (words t).length (parseW (words t) [] Spp.one) := if_neg hshort
  have d : decide ((4096 : Int) < t.size) = false := decide_eq_false (by omega)
  have d' : decide (4096 < t.size) = false := decide_eq_false hshort
  obtain ⟨W2, hW2⟩ : ∃ W2, W2 = (w.alloc (.cells Spv.zero.cells 26 (0, 0))).alloc (.cells Spv.one.cells 26 (0, 0)) := ⟨_, rfl⟩
  have hb2 : Below w.heap.size w W2 := by rw [hW2]; exact ((Below.refl _ _).alloc (Nat.le_refl _) _).alloc (by simp) _
  have hz2 : W2.heap.size = w.heap.size + 2 := by rw [hW2]; simp
  have hsp := rcut_any t 32 W2 (by omega)
  obtain ⟨L, hL⟩ : ∃ L, L = (words t).length := ⟨_, rfl⟩
  have hLm := words_many t
  rw [← hL] at hLm hpo
  rw [hW2] at hsp
  have hW2' := Lib.hid hW2
  clear hW2
  replace hpo := Lib.hid hpo; replace hb2 := Lib.hid hb2; replace hz2 := Lib.hid hz2; replace hsp := Lib.hid hsp; replace hL := Lib.hid hL; replace hi3 := Lib.hid hi3; replace hz3 := Lib.hid hz3; replace hz31 := Lib.hid hz31; replace hz32 := Lib.hid hz32
  go_enter Tryz.func93, Tryz.ntmps93
  go_wp2_with fail
  refine hsp.out.mono ?_
  rw [← hW2'.out]
  rintro e w1 ⟨so, n, c, rfl, hnc, hrow, hz9, hb1⟩
  have hnL : n = L := by rw [← hrow.len, hL.out]; rfl
  subst hnL
  have hbx : W2.heap[w.heap.size + 1]? = some (.cells Spv.one.cells 26 (0, 0)) := by rw [hW2'.out]; exact blk_at _ _ (by simp)
  have hrs : W2.heap[w.heap.size]? = some (.cells Spv.zero.cells 26 (0, 0)) := by rw [hW2'.out]; exact blk_old _ (blk_new _ _)
  have hR0 : RqW w w1 Spv.one [] (.slice none 0 0) w1 :=
    ⟨gb_refl _ _, hb2.out.trans (hb1.mono hb2.out.size), blk_below hb1 hrs (blk_lt hrs), blk_below hb1 hbx (blk_lt hbx), Spv.one_ok _, ⟨rfl, .inl ⟨rfl, rfl⟩⟩, nofun, by have := hb1.size; have := hz2.out; omega⟩
  obtain ⟨R, hR⟩ : ∃ R, R = parseW (words t) [] Spp.one := ⟨_, rfl⟩
  have hpo2 := hpo.out
  rw [← hR] at hpo2
  replace hb1 := Lib.hid hb1; replace hrow := Lib.hid hrow; replace hnc := Lib.hid hnc; replace hz9 := Lib.hid hz9; replace hbx := Lib.hid hbx; replace hrs := Lib.hid hrs; replace hR0 := Lib.hid hR0; replace hR := Lib.hid hR; replace hpo2 := Lib.hid hpo2
  go_wp2
  go_loopw [6, 8, 9, 10, 11, 12] (fun ov iv _ _ _ _ wr => ∃ (k : Nat) (met : List ByteArray) (zs : List Int) (x : Spv), iv = .int .i64 k ∧ k ≤ n ∧ Hid (met.length = k) ∧ Hid (MetI met zs) ∧ Hid (parseW ((words t).drop k) met x.pl = R) ∧ Hid (RqW w w1 x zs ov wr)) (fun _ i _ _ _ _ _ => n - (intOf i).toNat)
  case atStart => exact ⟨0, [], [], Spv.one, rfl, Nat.zero_le _, rfl, ⟨rfl, nofun⟩, hR.out.symm, hR0.out⟩
  case round =>
    obtain ⟨k, met, zs, x, rfl, hk, hml, hmi, hpw, hP⟩ := hrel
    by_cases hc : k < n
    · have hc1 : (k : Int) < n := by omega
      have hk0 : (0 : Int) ≤ (k : Int) := by omega
      have hkl : k < (words t).length := by rw [← hL.out]; exact hc
      obtain ⟨s, hs⟩ : ∃ s, (words t)[k]? = some s := ⟨_, List.getElem?_eq_getElem hkl⟩
      have hdr : (words t).drop k = s :: (words t).drop (k + 1) := by
        rw [List.drop_eq_getElem_cons hkl]
        rw [List.getElem?_eq_getElem hkl] at hs
        rw [Option.some.inj hs]
      have hsl := words_le (List.mem_of_getElem? hs)
      have hpw2 := hpw.out
      rw [hdr] at hpw2
      have hrr := strs_keep hrow.out hP.out.low.size fun b off e hlt => hP.out.low.block b hlt fun c => by
        injection c with c
        have := (hz9.out b off e).2.1
        have := hz2.out
        omega
      obtain ⟨b', off', rfl, _, c0⟩ := hrr.cell k s hs
      have hoz := (hz9.out _ _ rfl).1
      subst hoz
      simp only [Nat.zero_add] at c0
      have hck := rkey_any s wr (by omega)
      replace hs := Lib.hid hs; replace hdr := Lib.hid hdr; replace hsl := Lib.hid hsl; replace hpw2 := Lib.hid hpw2; replace hck := Lib.hid hck; replace hkl := Lib.hid hkl; replace hrr := Lib.hid hrr
      go_wp2_with fail
      refine hck.out.mono ?_
      rintro e w3 ⟨hb3, ⟨rfl, hkv⟩ | ⟨j, key, v, rfl, hkj, hkv, hvz⟩⟩
      · have hP3 := hP.out.on hb3
        have hno : stepP met x.pl s = none := by
          unfold stepP
          rcases hkv with h | ⟨kk, vv, h, hn⟩
          · rw [h]
          · rw [h]
            show (if memB met kk = true then none else (setP kk vv x.pl).map _) = none
            have : setP kk vv x.pl = none := setP_else hn
            rw [this]
            split <;> rfl
        have hz : parseOf t = (Spp.zero, 80, (k : Int) + 1) := by
          rw [hpo2.out, ← hpw2.out, parseW, hno]
          show (Spp.zero, (80 : Int), ((met.length + 1 : Nat) : Int)) = _
          rw [hml.out]; rfl
        clear c0
        replace hb3 := Lib.hid hb3; replace hkv := Lib.hid hkv; replace hno := Lib.hid hno; replace hz := Lib.hid hz; replace hP3 := Lib.hid hP3
        have cx := blk_cell (hP3.out).res
        have fx := blk_free (hP3.out).res
        have hlow := (hP3.out).lo
        replace hlow := Lib.hid hlow
        go_wp2
        refine bodyPost_ret (v := .tuple #[Spv.zero.val, .int .i64 80, .int .i64 ((k : Int) + 1)]) (by simp [results, Tryz.results93, go_sem, cx, Spv.zero, Spp.zero, V4.zero]; rfl) rfl ⟨Spv.zero, by rw [hz.out], Spv.zero_ok _, by rw [hz.out]; rfl, ?_, fun b o e => by cases e⟩
        exact low13 hlow.out _ _ _ _ _ _ _ _ _ _ _ _ _
      · have hP3 := hP.out.on hb3
        have hj : j < 10 := (List.getElem?_eq_some_iff.1 hkj).1
        have hkeyj : keyAt (j : Int) = key := by
          unfold keyAt
          rw [List.getD, show ((j : Int)).toNat = j by omega, hkj]; rfl
        obtain ⟨so2, n2, c2, e2, hnc2, hi2, _⟩ := ownI_form hP3.own
        subst e2
        have hci := in_any so2 n2 c2 zs (j : Int) w3 hi2
        rw [hmi.out.mem (by omega) (by omega), hkeyj] at hci
        obtain ⟨m, hm⟩ : ∃ m, m = memB met key := ⟨_, rfl⟩
        rw [← hm] at hci
        have dj : decide ((j : Int) < 0) = false := decide_eq_false (by omega)
        clear c0
        replace hb3 := Lib.hid hb3; replace hP3 := Lib.hid hP3; replace hkj := Lib.hid hkj; replace hkv := Lib.hid hkv; replace hvz := Lib.hid hvz; replace hkeyj := Lib.hid hkeyj; replace hnc2 := Lib.hid hnc2; replace hi2 := Lib.hid hi2; replace hci := Lib.hid hci; replace hm := Lib.hid hm
        go_wp2_with fail
        refine hci.out.mono ?_
        rintro e w4 ⟨rfl, rfl⟩
        cases m with
        | true =>
          have hno : stepP met x.pl s = none := by unfold stepP; rw [hkv.out]; simp [← hm.out]
          have hz : parseOf t = (Spp.zero, 80, (k : Int) + 1) := by
            rw [hpo2.out, ← hpw2.out, parseW, hno]
            show (Spp.zero, (80 : Int), ((met.length + 1 : Nat) : Int)) = _
            rw [hml.out]; rfl
          replace hno := Lib.hid hno; replace hz := Lib.hid hz
          have cx := blk_cell (hP3.out).res
          have fx := blk_free (hP3.out).res
          have hlow := (hP3.out).lo
          replace hlow := Lib.hid hlow
          go_wp2
          refine bodyPost_ret (v := .tuple #[Spv.zero.val, .int .i64 80, .int .i64 ((k : Int) + 1)]) (by simp [results, Tryz.results93, go_sem, cx, Spv.zero, Spp.zero, V4.zero]; rfl) rfl ⟨Spv.zero, by rw [hz.out], Spv.zero_ok _, by rw [hz.out]; rfl, ?_, fun b o e => by cases e⟩
          exact low13 hlow.out _ _ _ _ _ _ _ _ _ _ _ _ _
        | false =>
          have hst : stepP met x.pl s = (setP key v x.pl).map fun t => (key, t) := by unfold stepP; rw [hkv.out]; simp [← hm.out]
          have hset := rset_any j key v x w4 hkj.out hP3.out.ok (by have := hvz.out; have := hsl.out; omega)
          have hxo := hP3.out.off
          obtain ⟨⟨user, part, nodes, ⟨da, db, dc, dd⟩, wall, prio, array, retries, held, after⟩, so0, n0, cp0⟩ := x
          have y0 : w4.cell? ⟨w.heap.size + 1, 0, none⟩ = some (.string user) := blk_cell (hP3.out).box 0
          have y1 : w4.cell? ⟨w.heap.size + 1, 1, none⟩ = some (.string part) := blk_cell (hP3.out).box 1
          have y2 : w4.cell? ⟨w.heap.size + 1, 2, none⟩ = some (.int .i64 nodes) := blk_cell (hP3.out).box 2
          have y3 : w4.cell? ⟨w.heap.size + 1, 3, none⟩ = some (.int .i64 da) := blk_cell (hP3.out).box 3
          have y4 : w4.cell? ⟨w.heap.size + 1, 4, none⟩ = some (.int .i64 db) := blk_cell (hP3.out).box 4
          have y5 : w4.cell? ⟨w.heap.size + 1, 5, none⟩ = some (.int .i64 dc) := blk_cell (hP3.out).box 5
          have y6 : w4.cell? ⟨w.heap.size + 1, 6, none⟩ = some (.int .i64 dd) := blk_cell (hP3.out).box 6
          have y7 : w4.cell? ⟨w.heap.size + 1, 7, none⟩ = some (.int .i64 wall) := blk_cell (hP3.out).box 7
          have y8 : w4.cell? ⟨w.heap.size + 1, 8, none⟩ = some (.int .i64 prio) := blk_cell (hP3.out).box 8
          have y9 : w4.cell? ⟨w.heap.size + 1, 9, none⟩ = some (.int .i64 array) := blk_cell (hP3.out).box 9
          have y10 : w4.cell? ⟨w.heap.size + 1, 10, none⟩ = some (.int .i64 retries) := blk_cell (hP3.out).box 10
          have y11 : w4.cell? ⟨w.heap.size + 1, 11, none⟩ = some (.bool held) := blk_cell (hP3.out).box 11
          have y12 : w4.cell? ⟨w.heap.size + 1, 12, none⟩ = some (.slice so0 n0 cp0) := blk_cell (hP3.out).box 12
          replace hst := Lib.hid hst; replace hset := Lib.hid hset; replace hxo := Lib.hid hxo
          go_wp2_with fail
          refine hset.out.mono ?_
          rintro e w5 ⟨x', b, rfl, hb5, hsp5, hok5, hso5⟩
          have hP5 := hP3.out.on hb5
          clear y0 y1 y2 y3 y4 y5 y6 y7 y8 y9 y10 y11 y12
          cases b with
          | false =>
            have hno : stepP met ⟨user, part, nodes, ⟨da, db, dc, dd⟩, wall, prio, array, retries, held, after⟩ s = none := by
              have := hst.out
              rw [hsp5] at this
              exact this
            have hz : parseOf t = (Spp.zero, 80, (k : Int) + 1) := by
              rw [hpo2.out, ← hpw2.out, parseW, hno]
              show (Spp.zero, (80 : Int), ((met.length + 1 : Nat) : Int)) = _
              rw [hml.out]; rfl
            obtain ⟨⟨user', part', nodes', ⟨da', db', dc', dd'⟩, wall', prio', array', retries', held', after'⟩, so', n', cp'⟩ := x'
            have hP6 := hP5.on ((Below.refl _ _).alloc (Nat.le_refl _) (.cells (⟨⟨user', part', nodes', ⟨da', db', dc', dd'⟩, wall', prio', array', retries', held', after'⟩, so', n', cp'⟩ : Spv).cells 26 (0, 0)))
            replace hb5 := Lib.hid hb5; replace hsp5 := Lib.hid hsp5; replace hok5 := Lib.hid hok5; replace hso5 := Lib.hid hso5; replace hP5 := Lib.hid hP5; replace hno := Lib.hid hno; replace hz := Lib.hid hz; replace hP6 := Lib.hid hP6
            have cx := blk_cell (hP6.out).res
            have fx := blk_free (hP6.out).res
            have hlow := (hP6.out).lo
            replace hlow := Lib.hid hlow
            go_wp2
            refine bodyPost_ret (v := .tuple #[Spv.zero.val, .int .i64 80, .int .i64 ((k : Int) + 1)]) (by simp [results, Tryz.results93, go_sem, cx, Spv.zero, Spp.zero, V4.zero]; rfl) rfl ⟨Spv.zero, by rw [hz.out], Spv.zero_ok _, by rw [hz.out]; rfl, ?_, fun b o e => by cases e⟩
            exact low13 hlow.out _ _ _ _ _ _ _ _ _ _ _ _ _
          | true =>
            have hok := hok5 rfl
            have hpw4 : parseW ((words t).drop (k + 1)) (met ++ [key]) x'.pl = R := by
              have h := hpw2.out
              rw [parseW, hst.out, hsp5] at h
              exact h
            have hxo5 : ∀ b o, x'.so = some ⟨b, o, none⟩ → w1.heap.size ≤ b ∧ b < w5.heap.size ∧ some b ≠ (Value.slice so2 n2 c2).ownBlock := fun b o e => by
              rcases hso5 with h | h
              · have h3 := hxo.out b o (by have h2 : x'.so = so0 := h; rw [← h2]; exact e)
                exact ⟨h3.1, Nat.lt_of_lt_of_le h3.2.1 hb5.size, h3.2.2⟩
              · have h1 := h b o e
                have h2 := hP3.out.low.size
                refine ⟨by omega, h1.2, fun c => ?_⟩
                have := (hP3.out.own.row.lt b c.symm).2
                omega
            have hlt5 := blk_lt hP5.box
            have y0 : w5.cell? ⟨w.heap.size + 1, 0, none⟩ = some (.string user) := blk_cell (hP5).box 0
            have y1 : w5.cell? ⟨w.heap.size + 1, 1, none⟩ = some (.string part) := blk_cell (hP5).box 1
            have y2 : w5.cell? ⟨w.heap.size + 1, 2, none⟩ = some (.int .i64 nodes) := blk_cell (hP5).box 2
            have y3 : w5.cell? ⟨w.heap.size + 1, 3, none⟩ = some (.int .i64 da) := blk_cell (hP5).box 3
            have y4 : w5.cell? ⟨w.heap.size + 1, 4, none⟩ = some (.int .i64 db) := blk_cell (hP5).box 4
            have y5 : w5.cell? ⟨w.heap.size + 1, 5, none⟩ = some (.int .i64 dc) := blk_cell (hP5).box 5
            have y6 : w5.cell? ⟨w.heap.size + 1, 6, none⟩ = some (.int .i64 dd) := blk_cell (hP5).box 6
            have y7 : w5.cell? ⟨w.heap.size + 1, 7, none⟩ = some (.int .i64 wall) := blk_cell (hP5).box 7
            have y8 : w5.cell? ⟨w.heap.size + 1, 8, none⟩ = some (.int .i64 prio) := blk_cell (hP5).box 8
            have y9 : w5.cell? ⟨w.heap.size + 1, 9, none⟩ = some (.int .i64 array) := blk_cell (hP5).box 9
            have y10 : w5.cell? ⟨w.heap.size + 1, 10, none⟩ = some (.int .i64 retries) := blk_cell (hP5).box 10
            have y11 : w5.cell? ⟨w.heap.size + 1, 11, none⟩ = some (.bool held) := blk_cell (hP5).box 11
            have y12 : w5.cell? ⟨w.heap.size + 1, 12, none⟩ = some (.slice so0 n0 cp0) := blk_cell (hP5).box 12
            have fx := blk_free hP5.box
            obtain ⟨⟨user', part', nodes', ⟨da', db', dc', dd'⟩, wall', prio', array', retries', held', after'⟩, so', n', cp'⟩ := x'
            replace hb5 := Lib.hid hb5; replace hsp5 := Lib.hid hsp5; replace hok5 := Lib.hid hok5; replace hso5 := Lib.hid hso5; replace hP5 := Lib.hid hP5; replace hok := Lib.hid hok; replace hpw4 := Lib.hid hpw4; replace hxo5 := Lib.hid hxo5
            obtain ⟨W6, hW6⟩ : ∃ W6, W6 = (((((((((((((w5.setCell ⟨w.heap.size + 1, 0, none⟩ (Value.string user')).setCell ⟨w.heap.size + 1, 1, none⟩ (Value.string part')).setCell ⟨w.heap.size + 1, 2, none⟩ (Value.int IntKind.i64 nodes')).setCell ⟨w.heap.size + 1, 3, none⟩ (Value.int IntKind.i64 da')).setCell ⟨w.heap.size + 1, 4, none⟩ (Value.int IntKind.i64 db')).setCell ⟨w.heap.size + 1, 5, none⟩ (Value.int IntKind.i64 dc')).setCell ⟨w.heap.size + 1, 6, none⟩ (Value.int IntKind.i64 dd')).setCell ⟨w.heap.size + 1, 7, none⟩ (Value.int IntKind.i64 wall')).setCell ⟨w.heap.size + 1, 8, none⟩ (Value.int IntKind.i64 prio')).setCell ⟨w.heap.size + 1, 9, none⟩ (Value.int IntKind.i64 array')).setCell ⟨w.heap.size + 1, 10, none⟩ (Value.int IntKind.i64 retries')).setCell ⟨w.heap.size + 1, 11, none⟩ (Value.bool held')).setCell ⟨w.heap.size + 1, 12, none⟩ (Value.slice so' n' cp')).alloc (Obj.cells #[Value.string user', Value.string part', Value.int IntKind.i64 nodes', Value.int IntKind.i64 da', Value.int IntKind.i64 db', Value.int IntKind.i64 dc', Value.int IntKind.i64 dd', Value.int IntKind.i64 wall', Value.int IntKind.i64 prio', Value.int IntKind.i64 array', Value.int IntKind.i64 retries', Value.bool held', Value.slice so' n' cp'] 26 (0, 0)) := ⟨_, rfl⟩
            have hP6 : RqW w w1 ⟨⟨user', part', nodes', ⟨da', db', dc', dd'⟩, wall', prio', array', retries', held', after'⟩, so', n', cp'⟩ zs (.slice so2 n2 c2) W6 := by
              rw [hW6]
              exact RqW.store (x' := ⟨⟨user', part', nodes', ⟨da', db', dc', dd'⟩, wall', prio', array', retries', held', after'⟩, so', n', cp'⟩) hP5.out hok.out hxo5.out _
            go_upto_region 16 with fail
            rw [← hW6]
            have hW6' := Lib.hid hW6
            clear hW6
            obtain ⟨Lz, hLz⟩ : ∃ Lz, Lz = zs.length := ⟨_, rfl⟩
            have hLk : Lz ≤ 4097 := by
              have h1 := hml.out
              rw [hmi.out.eq, List.length_map] at h1
              omega
            have hownA : (W6.alloc (.cells #[.int .i64 (j : Int)] 3 (0, 0))).ownsRow w1.heap.size 3 1 (.slice so2 n2 c2) Lz (intsV zs) := by rw [hLz]; exact hP6.own.row.alloc (.cells #[.int .i64 (j : Int)] 3 (0, 0))
            have hnews := int_new W6 (j : Int)
            have hone1 : ∀ u ∈ ([.int .i64 (j : Int)] : List Value), u.oneCell' = true := by simp [Value.oneCell']
            have h63 := maxLen_ge (n := Lz) (by omega)
            have hby : (Lz + 1) * 8 ≤ 140737488355328 := by omega
            have hbas : w1.heap.size ≤ (W6.alloc (.cells #[.int .i64 (j : Int)] 3 (0, 0))).heap.size := by have := hP6.low.size; simp; omega
            replace hP6 := Lib.hid hP6; replace hLz := Lib.hid hLz; replace hownA := Lib.hid hownA; replace hnews := Lib.hid hnews; replace hone1 := Lib.hid hone1; replace h63 := Lib.hid h63; replace hby := Lib.hid hby; replace hbas := Lib.hid hbas
            go_wp2_with (at_builtin; refine wpList_append_own_at _ rfl _ _ 24 rfl w1.heap.size 3 i3 _ 1 8 Tryz.underlying24 hi3.out hz3.out hz31.out hz32.out rfl (by decide) _ Lz _ rfl hownA.out ⟨W6.heap.size, 0, none⟩ 1 1 [.int .i64 (j : Int)] rfl rfl hnews.out hone1.out h63.out hby.out hbas.out ?_; intro v1 w7 hown7 hgrow _ hat7; obtain ⟨g7, cap1, rfl⟩ := Joins.ownsRow_form hown7 (by omega); replace hown7 := Lib.hid hown7; replace hgrow := Lib.hid hgrow; replace hat7 := Lib.hid hat7)
            have hO7 : OwnI w7 w1.heap.size (.slice (some ⟨g7, 0, none⟩) (Lz + 1) cap1) (zs ++ [(j : Int)]) := by
              refine ⟨?_⟩
              rw [List.length_append, ← hLz.out]
              simpa [intsV] using hown7.out
            have hP7 : RqW w w1 ⟨⟨user', part', nodes', ⟨da', db', dc', dd'⟩, wall', prio', array', retries', held', after'⟩, so', n', cp'⟩ (zs ++ [(j : Int)]) (.slice (some ⟨g7, 0, none⟩) (Lz + 1) cap1) w7 := (hP6.out.on ((Below.refl _ _).alloc (Nat.le_refl _) _)).app hgrow.out hO7 hat7.out
            have hml7 : (met ++ [key]).length = k + 1 := by rw [List.length_append, hml.out]; rfl
            have hmi7 := hmi.out.snoc hkj.out
            replace hO7 := Lib.hid hO7; replace hP7 := Lib.hid hP7; replace hml7 := Lib.hid hml7; replace hmi7 := Lib.hid hmi7
            go_wp2
            go_roundw
            case rel => exact ⟨k + 1, met ++ [key], zs ++ [(j : Int)], ⟨⟨user', part', nodes', ⟨da', db', dc', dd'⟩, wall', prio', array', retries', held', after'⟩, so', n', cp'⟩, by go_num, by omega, hml7.out, hmi7.out, hpw4.out, hP7.out⟩
            case measure => simp [intOf]; omega
    · have hc1 : ¬ (k : Int) < n := by omega
      have hkn : k = n := by omega
      subst hkn
      have hpw2 := hpw.out
      rw [List.drop_of_length_le (by rw [← hL.out]; omega)] at hpw2
      have hend : R = .inl (met, x.pl) := hpw2.symm
      have hz5 : parseOf t = if five met = true then (x.pl, 0, 0) else (Spp.zero, 80, ((k + 1 : Nat) : Int)) := by rw [hpo2.out, hend]; rfl
      obtain ⟨so2, n2, c2, e2, hnc2, hi2, _⟩ := ownI_form hP.out.own
      subst e2
      obtain ⟨wo, hwo⟩ : ∃ wo : World, wo = wr := ⟨_, rfl⟩
      subst hwo
      have hlen7 : ∀ ty w, (Builtin.len_ #[71] ty #[.slice so k c]).run Tryz.prog w = .ok (.int .i64 (k : Int)) w := fun ty w => by simp [go_sem, Tryz.underlying71]
      replace hpw2 := Lib.hid hpw2; replace hend := Lib.hid hend; replace hz5 := Lib.hid hz5; replace hnc2 := Lib.hid hnc2; replace hi2 := Lib.hid hi2
      go_wp2
      go_loopw [13] (fun i wq => ∃ q : Nat, i = .int .i64 q ∧ q ≤ 5 ∧ Hid (∀ m : Nat, m < q → memB met (keyAt (m : Int)) = true) ∧ Hid (wq = wo)) (fun i _ => 5 - (intOf i).toNat)
      case atStart => exact ⟨0, rfl, by omega, (fun m h => absurd h (Nat.not_lt_zero _)), rfl⟩
      case round =>
        obtain ⟨q, rfl, hq, hall, hw⟩ := hrel
        have hw2 := hw.out.symm
        subst hw2
        by_cases hq5 : q < 5
        · have hq1 : (q : Int) < 5 := by omega
          have hci := in_any so2 n2 c2 (zs) (q : Int) wo hi2.out
          rw [hmi.out.mem (by omega) (by omega)] at hci
          obtain ⟨m, hm⟩ : ∃ m, m = memB met (keyAt (q : Int)) := ⟨_, rfl⟩
          rw [← hm] at hci
          replace hci := Lib.hid hci; replace hm := Lib.hid hm
          go_wp2_with fail
          refine hci.out.mono ?_
          rintro e w4 ⟨rfl, rfl⟩
          cases m with
          | true =>
            have hall2 : ∀ m : Nat, m < q + 1 → memB met (keyAt (m : Int)) = true := fun m h => by
              by_cases c : m = q
              · rw [c]; exact hm.out.symm
              · exact hall.out m (by omega)
            replace hall2 := Lib.hid hall2
            go_wp2
            go_roundw
            case rel => exact ⟨q + 1, by go_num, by omega, hall2.out, trivial⟩
            case measure => simp [intOf]; omega
          | false =>
            have hf : five met = false := by
              rw [Bool.eq_false_iff]
              intro h
              simp only [five, Bool.and_eq_true] at h
              obtain ⟨⟨⟨⟨h1, h2⟩, h3⟩, h4⟩, h5⟩ := h
              have hmo := hm.out
              rcases (show q = 0 ∨ q = 1 ∨ q = 2 ∨ q = 3 ∨ q = 4 by omega) with rfl | rfl | rfl | rfl | rfl
              · exact absurd (hmo.trans h1) (by decide)
              · exact absurd (hmo.trans h2) (by decide)
              · exact absurd (hmo.trans h3) (by decide)
              · exact absurd (hmo.trans h4) (by decide)
              · exact absurd (hmo.trans h5) (by decide)
            have hz : parseOf t = (Spp.zero, 80, (k : Int) + 1) := by rw [hz5.out, hf]; rfl
            replace hf := Lib.hid hf; replace hz := Lib.hid hz
            have cx := blk_cell (hP.out).res
            have fx := blk_free (hP.out).res
            have hlow := (hP.out).lo
            replace hlow := Lib.hid hlow
            go_wp2
            refine bodyPost_ret (v := .tuple #[Spv.zero.val, .int .i64 80, .int .i64 ((k : Int) + 1)]) (by simp [results, Tryz.results93, go_sem, cx, Spv.zero, Spp.zero, V4.zero]; rfl) rfl ⟨Spv.zero, by rw [hz.out], Spv.zero_ok _, by rw [hz.out]; rfl, ?_, fun b o e => by cases e⟩
            exact low13 hlow.out _ _ _ _ _ _ _ _ _ _ _ _ _
        · have hq1 : ¬ (q : Int) < 5 := by omega
          have hqe : q = 5 := by omega
          have hf : five met = true := by
            have h := hall.out
            rw [hqe] at h
            simp only [five, Bool.and_eq_true]
            exact ⟨⟨⟨⟨h 0 (by omega), h 1 (by omega)⟩, h 2 (by omega)⟩, h 3 (by omega)⟩, h 4 (by omega)⟩
          have hz : parseOf t = (x.pl, 0, 0) := by rw [hz5.out, hf]; rfl
          have hok := hP.out.ok
          have hoff := hP.out.off
          have hlow := hP.out.lo
          have hlt9 := hP.out.lt
          have cx := blk_cell hP.out.res
          have fx := blk_free hP.out.res
          obtain ⟨⟨user, part, nodes, ⟨da, db, dc, dd⟩, wall, prio, array, retries, held, after⟩, so0, n0, cp0⟩ := x
          have y0 : wo.cell? ⟨w.heap.size + 1, 0, none⟩ = some (.string user) := blk_cell (hP.out).box 0
          have y1 : wo.cell? ⟨w.heap.size + 1, 1, none⟩ = some (.string part) := blk_cell (hP.out).box 1
          have y2 : wo.cell? ⟨w.heap.size + 1, 2, none⟩ = some (.int .i64 nodes) := blk_cell (hP.out).box 2
          have y3 : wo.cell? ⟨w.heap.size + 1, 3, none⟩ = some (.int .i64 da) := blk_cell (hP.out).box 3
          have y4 : wo.cell? ⟨w.heap.size + 1, 4, none⟩ = some (.int .i64 db) := blk_cell (hP.out).box 4
          have y5 : wo.cell? ⟨w.heap.size + 1, 5, none⟩ = some (.int .i64 dc) := blk_cell (hP.out).box 5
          have y6 : wo.cell? ⟨w.heap.size + 1, 6, none⟩ = some (.int .i64 dd) := blk_cell (hP.out).box 6
          have y7 : wo.cell? ⟨w.heap.size + 1, 7, none⟩ = some (.int .i64 wall) := blk_cell (hP.out).box 7
          have y8 : wo.cell? ⟨w.heap.size + 1, 8, none⟩ = some (.int .i64 prio) := blk_cell (hP.out).box 8
          have y9 : wo.cell? ⟨w.heap.size + 1, 9, none⟩ = some (.int .i64 array) := blk_cell (hP.out).box 9
          have y10 : wo.cell? ⟨w.heap.size + 1, 10, none⟩ = some (.int .i64 retries) := blk_cell (hP.out).box 10
          have y11 : wo.cell? ⟨w.heap.size + 1, 11, none⟩ = some (.bool held) := blk_cell (hP.out).box 11
          have y12 : wo.cell? ⟨w.heap.size + 1, 12, none⟩ = some (.slice so0 n0 cp0) := blk_cell (hP.out).box 12
          have x0 : wo.cell? ⟨w.heap.size, 0, none⟩ = some (.string ByteArray.empty) := cx 0
          have x1 : wo.cell? ⟨w.heap.size, 1, none⟩ = some (.string ByteArray.empty) := cx 1
          have x2 : wo.cell? ⟨w.heap.size, 2, none⟩ = some (.int .i64 0) := cx 2
          have x3 : wo.cell? ⟨w.heap.size, 3, none⟩ = some (.int .i64 0) := cx 3
          have x4 : wo.cell? ⟨w.heap.size, 4, none⟩ = some (.int .i64 0) := cx 4
          have x5 : wo.cell? ⟨w.heap.size, 5, none⟩ = some (.int .i64 0) := cx 5
          have x6 : wo.cell? ⟨w.heap.size, 6, none⟩ = some (.int .i64 0) := cx 6
          have x7 : wo.cell? ⟨w.heap.size, 7, none⟩ = some (.int .i64 0) := cx 7
          have x8 : wo.cell? ⟨w.heap.size, 8, none⟩ = some (.int .i64 0) := cx 8
          have x9 : wo.cell? ⟨w.heap.size, 9, none⟩ = some (.int .i64 0) := cx 9
          have x10 : wo.cell? ⟨w.heap.size, 10, none⟩ = some (.int .i64 0) := cx 10
          have x11 : wo.cell? ⟨w.heap.size, 11, none⟩ = some (.bool false) := cx 11
          have x12 : wo.cell? ⟨w.heap.size, 12, none⟩ = some (.slice none 0 0) := cx 12
          clear cx
          replace hz := Lib.hid hz; replace hok := Lib.hid hok; replace hoff := Lib.hid hoff; replace hlow := Lib.hid hlow; replace hf := Lib.hid hf; replace hqe := Lib.hid hqe; replace hlt9 := Lib.hid hlt9
          go_wp2
          refine bodyPost_ret (v := .tuple #[(⟨⟨user, part, nodes, ⟨da, db, dc, dd⟩, wall, prio, array, retries, held, after⟩, so0, n0, cp0⟩ : Spv).val, .int .i64 0, .int .i64 0]) (by simp [results, Tryz.results93, go_sem, x0, x1, x2, x3, x4, x5, x6, x7, x8, x9, x10, x11, x12]) rfl ⟨⟨⟨user, part, nodes, ⟨da, db, dc, dd⟩, wall, prio, array, retries, held, after⟩, so0, n0, cp0⟩, by rw [hz.out], ⟨ints_gb hok.out.after (gb13 w wo _ _ _ _ _ _ _ _ _ _ _ _ _) (fun b o e => by have := (hoff.out b o e).1; have := hlt9.out; omega), hok.out.ple, hok.out.user, hok.out.part⟩, by rw [hz.out], low13 hlow.out _ _ _ _ _ _ _ _ _ _ _ _ _, fun b o e => by have := (hoff.out b o e).1; have := hlt9.out; omega⟩
theorem rparse_any (t : ByteArray) (w : World) : Calls Tryz.prog 93 #[.string t] w (ParsePost t w) := by
  by_cases h : 4096 < t.size
  · exact rparse_long t w h
  · exact rparse_short t w h
end Go.Proofs.YteoihdkaoipocaaGreatDoor

/- corveeref08.Same; spec.Need; corveelaw08.awake. -/
namespace Go.Proofs.YteoihdkaoipocaaGreatDoor
open Go.RowKit Go.Maps Go.Shelf Go.Sort

theorem str_dec (p q : ByteArray) : (p.toList == q.toList) = decide (p = q) := by
  by_cases h : p = q
  · rw [str_eq h, decide_eq_true h]
  · rw [str_ne h, decide_eq_false h]
theorem int_dec (a b : Int) : (a == b) = decide (a = b) := by
  by_cases h : a = b <;> simp [h]
theorem bool_dec (a b : Bool) : (a == b) = decide (a = b) := by cases a <;> cases b <;> rfl
theorem spp_dec (a b : Spp) : decide (a = b) = (decide (a.after = b.after) && decide (a.user = b.user) && decide (a.part = b.part) && decide (a.nodes = b.nodes) && decide (a.dem = b.dem) && decide (a.wall = b.wall) && decide (a.prio = b.prio) && decide (a.array = b.array) && decide (a.retries = b.retries) && decide (a.held = b.held)) := by
  obtain ⟨a1, a2, a3, a4, a5, a6, a7, a8, a9, a10⟩ := a
  obtain ⟨b1, b2, b3, b4, b5, b6, b7, b8, b9, b10⟩ := b
  rw [Bool.eq_iff_iff]
  simp only [Bool.and_eq_true, decide_eq_true_eq, Spp.mk.injEq]
  constructor
  · rintro ⟨h1, h2, h3, h4, h5, h6, h7, h8, h9, h10⟩
    exact ⟨⟨⟨⟨⟨⟨⟨⟨⟨h10, h1⟩, h2⟩, h3⟩, h4⟩, h5⟩, h6⟩, h7⟩, h8⟩, h9⟩
  · rintro ⟨⟨⟨⟨⟨⟨⟨⟨⟨h10, h1⟩, h2⟩, h3⟩, h4⟩, h5⟩, h6⟩, h7⟩, h8⟩, h9⟩
    exact ⟨h1, h2, h3, h4, h5, h6, h7, h8, h9, h10⟩
def SamePost (x y : Spv) (w : World) (e : Ending) (w' : World) : Prop := e = .returned (.bool (decide (x.pl = y.pl))) ∧ Below w.heap.size w w'
set_option maxRecDepth 100000 in
set_option maxHeartbeats 3200000 in
theorem same_any8 (x y : Spv) (w : World) (hx : x.ok w) (hy : y.ok w) : Calls Tryz.prog 94 #[x.val, y.val] w (SamePost x y w) := by
  obtain ⟨W0, hW0⟩ : ∃ W0, W0 = (w.alloc (.cells x.cells 26 (0, 0))).alloc (.cells y.cells 26 (0, 0)) := ⟨_, rfl⟩
  have hb0 : Below w.heap.size w W0 := by rw [hW0]; exact ((Below.refl _ _).alloc (Nat.le_refl _) _).alloc (by simp) _
  have hx0 : W0.heap[w.heap.size]? = some (.cells x.cells 26 (0, 0)) := by rw [hW0]; exact blk_old _ (blk_new _ _)
  have hy0 : W0.heap[w.heap.size + 1]? = some (.cells y.cells 26 (0, 0)) := by rw [hW0]; exact blk_at _ _ (by simp)
  have hct := samei_any x.so y.so x.n y.n x.c y.c x.pl.after y.pl.after W0 (hx.low hb0).after (hy.low hb0).after
  have hzz := spp_dec x.pl y.pl
  obtain ⟨⟨user, part, nodes, ⟨da, db, dc, dd⟩, wall, prio, array, retries, held, after⟩, so, n, cp⟩ := x
  obtain ⟨⟨user', part', nodes', ⟨da', db', dc', dd'⟩, wall', prio', array', retries', held', after'⟩, so', n', cp'⟩ := y
  have e1 := str_dec user user'
  have e2 := str_dec part part'
  have e3 := int_dec nodes nodes'
  have e4 := eq25 ⟨da, db, dc, dd⟩ ⟨da', db', dc', dd'⟩
  have e5 := int_dec wall wall'
  have e6 := int_dec prio prio'
  have e7 := int_dec array array'
  have e8 := int_dec retries retries'
  have e9 := bool_dec held held'
  obtain ⟨q0, h0⟩ : ∃ q, q = decide (after = after') := ⟨_, rfl⟩
  obtain ⟨q1, h1⟩ : ∃ q, q = decide (user = user') := ⟨_, rfl⟩
  obtain ⟨q2, h2⟩ : ∃ q, q = decide (part = part') := ⟨_, rfl⟩
  obtain ⟨q3, h3⟩ : ∃ q, q = decide (nodes = nodes') := ⟨_, rfl⟩
  obtain ⟨q4, h4⟩ : ∃ q, q = decide ((⟨da, db, dc, dd⟩ : V4) = ⟨da', db', dc', dd'⟩) := ⟨_, rfl⟩
  obtain ⟨q5, h5⟩ : ∃ q, q = decide (wall = wall') := ⟨_, rfl⟩
  obtain ⟨q6, h6⟩ : ∃ q, q = decide (prio = prio') := ⟨_, rfl⟩
  obtain ⟨q7, h7⟩ : ∃ q, q = decide (array = array') := ⟨_, rfl⟩
  obtain ⟨q8, h8⟩ : ∃ q, q = decide (retries = retries') := ⟨_, rfl⟩
  obtain ⟨q9, h9⟩ : ∃ q, q = decide (held = held') := ⟨_, rfl⟩
  unfold SameiPost at hct
  rw [← h0] at hct
  rw [← h1] at e1
  rw [← h2] at e2
  rw [← h3] at e3
  rw [← h4] at e4
  rw [← h5] at e5
  rw [← h6] at e6
  rw [← h7] at e7
  rw [← h8] at e8
  rw [← h9] at e9
  have hz : decide ((⟨user, part, nodes, ⟨da, db, dc, dd⟩, wall, prio, array, retries, held, after⟩ : Spp) = ⟨user', part', nodes', ⟨da', db', dc', dd'⟩, wall', prio', array', retries', held', after'⟩) = (q0 && q1 && q2 && q3 && q4 && q5 && q6 && q7 && q8 && q9) := by
    rw [hzz]
    show (decide (after = after') && decide (user = user') && decide (part = part') && decide (nodes = nodes') && decide ((⟨da, db, dc, dd⟩ : V4) = ⟨da', db', dc', dd'⟩) && decide (wall = wall') && decide (prio = prio') && decide (array = array') && decide (retries = retries') && decide (held = held')) = _
    rw [← h0, ← h1, ← h2, ← h3, ← h4, ← h5, ← h6, ← h7, ← h8, ← h9]
  unfold SamePost
  show Calls _ _ _ _ fun e w' => e = .returned (.bool (decide ((⟨user, part, nodes, ⟨da, db, dc, dd⟩, wall, prio, array, retries, held, after⟩ : Spp) = ⟨user', part', nodes', ⟨da', db', dc', dd'⟩, wall', prio', array', retries', held', after'⟩))) ∧ Below w.heap.size w w'
  rw [hz]
  clear hzz h0 h1 h2 h3 h4 h5 h6 h7 h8 h9 hz
  have hz : True := trivial
  rw [hW0] at hct
  have hW0' := Lib.hid hW0
  clear hW0
  have e4' := Lib.hid e4
  clear e4
  replace hb0 := Lib.hid hb0; replace hx0 := Lib.hid hx0; replace hy0 := Lib.hid hy0; replace hct := Lib.hid hct; replace hx := Lib.hid hx; replace hy := Lib.hid hy; replace e1 := Lib.hid e1; replace e2 := Lib.hid e2; replace e3 := Lib.hid e3; replace e5 := Lib.hid e5; replace e6 := Lib.hid e6; replace e7 := Lib.hid e7; replace e8 := Lib.hid e8; replace e9 := Lib.hid e9
  go_enter Tryz.func94, Tryz.ntmps94
  go_wp2_with fail
  refine hct.out.mono ?_
  rintro e w1 ⟨rfl, hb1⟩
  rw [← hW0'.out] at hb1
  have hx1 := blk_below hb1 hx0.out (blk_lt hx0.out)
  have hy1 := blk_below hb1 hy0.out (blk_lt hy0.out)
  have hlow : Below w.heap.size w w1 := hb0.out.trans (hb1.mono hb0.out.size)
  have y0 : w1.cell? ⟨w.heap.size, 0, none⟩ = some (.string user) := blk_cell hx1 0
  have y1 : w1.cell? ⟨w.heap.size, 1, none⟩ = some (.string part) := blk_cell hx1 1
  have y2 : w1.cell? ⟨w.heap.size, 2, none⟩ = some (.int .i64 nodes) := blk_cell hx1 2
  have y3 : w1.cell? ⟨w.heap.size, 3, none⟩ = some (.int .i64 da) := blk_cell hx1 3
  have y4 : w1.cell? ⟨w.heap.size, 4, none⟩ = some (.int .i64 db) := blk_cell hx1 4
  have y5 : w1.cell? ⟨w.heap.size, 5, none⟩ = some (.int .i64 dc) := blk_cell hx1 5
  have y6 : w1.cell? ⟨w.heap.size, 6, none⟩ = some (.int .i64 dd) := blk_cell hx1 6
  have y7 : w1.cell? ⟨w.heap.size, 7, none⟩ = some (.int .i64 wall) := blk_cell hx1 7
  have y8 : w1.cell? ⟨w.heap.size, 8, none⟩ = some (.int .i64 prio) := blk_cell hx1 8
  have y9 : w1.cell? ⟨w.heap.size, 9, none⟩ = some (.int .i64 array) := blk_cell hx1 9
  have y10 : w1.cell? ⟨w.heap.size, 10, none⟩ = some (.int .i64 retries) := blk_cell hx1 10
  have y11 : w1.cell? ⟨w.heap.size, 11, none⟩ = some (.bool held) := blk_cell hx1 11
  have y12 : w1.cell? ⟨w.heap.size, 12, none⟩ = some (.slice so n cp) := blk_cell hx1 12
  have z0 : w1.cell? ⟨w.heap.size + 1, 0, none⟩ = some (.string user') := blk_cell hy1 0
  have z1 : w1.cell? ⟨w.heap.size + 1, 1, none⟩ = some (.string part') := blk_cell hy1 1
  have z2 : w1.cell? ⟨w.heap.size + 1, 2, none⟩ = some (.int .i64 nodes') := blk_cell hy1 2
  have z3 : w1.cell? ⟨w.heap.size + 1, 3, none⟩ = some (.int .i64 da') := blk_cell hy1 3
  have z4 : w1.cell? ⟨w.heap.size + 1, 4, none⟩ = some (.int .i64 db') := blk_cell hy1 4
  have z5 : w1.cell? ⟨w.heap.size + 1, 5, none⟩ = some (.int .i64 dc') := blk_cell hy1 5
  have z6 : w1.cell? ⟨w.heap.size + 1, 6, none⟩ = some (.int .i64 dd') := blk_cell hy1 6
  have z7 : w1.cell? ⟨w.heap.size + 1, 7, none⟩ = some (.int .i64 wall') := blk_cell hy1 7
  have z8 : w1.cell? ⟨w.heap.size + 1, 8, none⟩ = some (.int .i64 prio') := blk_cell hy1 8
  have z9 : w1.cell? ⟨w.heap.size + 1, 9, none⟩ = some (.int .i64 array') := blk_cell hy1 9
  have z10 : w1.cell? ⟨w.heap.size + 1, 10, none⟩ = some (.int .i64 retries') := blk_cell hy1 10
  have z11 : w1.cell? ⟨w.heap.size + 1, 11, none⟩ = some (.bool held') := blk_cell hy1 11
  have z12 : w1.cell? ⟨w.heap.size + 1, 12, none⟩ = some (.slice so' n' cp') := blk_cell hy1 12
  replace hx1 := Lib.hid hx1; replace hy1 := Lib.hid hy1; replace hlow := Lib.hid hlow; replace hb1 := Lib.hid hb1
  cases q0 with
  | false =>
    go_wp2
    go_ret
    exact ⟨rfl, hlow.out⟩
  | true =>
  have f1 := e1.out
  cases q1 with
  | false =>
    go_wp2
    go_ret
    exact ⟨rfl, hlow.out⟩
  | true =>
  have f2 := e2.out
  cases q2 with
  | false =>
    go_wp2
    go_ret
    exact ⟨rfl, hlow.out⟩
  | true =>
  have f3 := e3.out
  cases q3 with
  | false =>
    go_wp2
    go_ret
    exact ⟨rfl, hlow.out⟩
  | true =>
  have f4 := e4'.out
  cases q4 with
  | false =>
    go_wp2
    go_ret
    exact ⟨rfl, hlow.out⟩
  | true =>
  have f5 := e5.out
  cases q5 with
  | false =>
    go_wp2
    go_ret
    exact ⟨rfl, hlow.out⟩
  | true =>
  have f6 := e6.out
  cases q6 with
  | false =>
    go_wp2
    go_ret
    exact ⟨rfl, hlow.out⟩
  | true =>
  have f7 := e7.out
  cases q7 with
  | false =>
    go_wp2
    go_ret
    exact ⟨rfl, hlow.out⟩
  | true =>
  have f8 := e8.out
  cases q8 with
  | false =>
    go_wp2
    go_ret
    exact ⟨rfl, hlow.out⟩
  | true =>
  have f9 := e9.out
  cases q9 with
  | false =>
    go_wp2
    go_ret
    exact ⟨rfl, hlow.out⟩
  | true =>
  go_wp2
  go_ret
  exact ⟨rfl, hlow.out⟩
end Go.Proofs.YteoihdkaoipocaaGreatDoor

/- corveeref08.Need, Rows. -/
namespace Go.Proofs.YteoihdkaoipocaaGreatDoor
open Go.RowKit Go.Maps Go.Shelf Go.Sort

def nx4 (d : V4) (n : Int) (k : Nat) : V4 := ⟨if 0 < k then d.a * n else d.a, if 1 < k then d.b * n else d.b, if 2 < k then d.c * n else d.c, if 3 < k then d.d * n else d.d⟩
structure NrW (w : World) (x : Spv) (vb : Nat) (v : V4) (W : World) : Prop where
  low : Below w.heap.size w W
  box : W.heap[w.heap.size]? = some (.cells x.cells 26 (0, 0))
  res : W.heap[w.heap.size + 1]? = some (.cells V4.zero.cells 23 (0, 0))
  vec : W.heap[vb]? = some (.cells v.cells 23 (0, 0))
  lt : w.heap.size + 1 < vb
theorem NrW.set {w W : World} {x : Spv} {vb : Nat} {v v' : V4} (h : NrW w x vb v W) (o : Nat) (z : Value) (e : v.cells.setIfInBounds o z = v'.cells) : NrW w x vb v' (W.setCell ⟨vb, o, none⟩ z) :=
  ⟨h.low.setCell (show w.heap.size ≤ vb by have := h.lt; omega) _, blk_set_other (by have := h.lt; omega) _ h.box, blk_set_other (by have := h.lt; omega) _ h.res, by rw [← e]; exact blk_set h.vec o z, h.lt⟩
theorem NrW.drew {w W : World} {x : Spv} {vb : Nat} {v : V4} (h : NrW w x vb v W) : NrW w x vb v W.drew := ⟨h.low.drew, h.box, h.res, h.vec, h.lt⟩
end Go.Proofs.YteoihdkaoipocaaGreatDoor

/- corveeref08.Expand. -/
namespace Go.Proofs.YteoihdkaoipocaaGreatDoor
open Go.RowKit Go.Maps Go.Shelf Go.Sort

theorem info28 : (Tryz.prog.info? 26).map (fun i => (i.zero, i.size, i.bytes)) = some (some Spv.zero.val, 13, 136) := by kernel_rfl
theorem spv_new (w : World) (x : Spv) : ∀ j u, x.cells.toList[j]? = some u → (w.alloc (.cells x.cells 26 (0, 0))).cell? ((⟨w.heap.size, 0, none⟩ : Addr).add j) = some u := by
  intro j u hu
  rw [Addr.add_lit, Nat.zero_add, blk_cell (blk_new w _)]
  simpa using hu
theorem spv_one (x : Spv) : ∀ u ∈ x.cells.toList, u.oneCell' = true := by simp [Value.oneCell']
/-- a row of specs of one's own -/
structure OwnS (w : World) (B : Nat) (v : Value) (xs : List Spv) : Prop where
  row : w.ownsRow B 26 13 v xs.length (flatv Spv.cells xs)
theorem ownS_low {w w' : World} {B : Nat} {v : Value} {xs : List Spv} (h : OwnS w B v xs) (hb : Below w.heap.size w w') : OwnS w' B v xs := by
  refine ⟨h.row.1, ?_⟩
  rcases h.row.2 with ⟨hv, h0⟩ | ⟨g, cap, cur, hv, hg, hh, hr⟩
  · exact .inl ⟨hv, h0⟩
  · exact .inr ⟨g, cap, cur, hv, hg, blk_below hb hh (blk_lt hh), hr⟩
def Spv.single (x : Spv) : Spv := ⟨{ x.pl with array := 1 }, x.so, x.n, x.c⟩
def expN (s : Spp) : Nat := if mayS s = true then s.array.toNat else 0
def RexPost (x : Spv) (w : World) (e : Ending) (w' : World) : Prop := ∃ v, e = .returned v ∧ OwnS w' w.heap.size v (List.replicate (expN x.pl) x.single) ∧ Below w.heap.size w w'
end Go.Proofs.YteoihdkaoipocaaGreatDoor

/- Rows of specs that are written in place. Plain theorems: no condition. -/
namespace Go.Proofs.YteoihdkaoipocaaGreatDoor
open Go.RowKit Go.Maps Go.Shelf Go.Sort

/-- cells stored one behind the other -/
def setsA (c : Array Value) (base : Nat) : List Value → Array Value
  | [] => c
  | v :: vs => setsA (c.setIfInBounds base v) (base + 1) vs
def setRow (W : World) (g base : Nat) : List Value → World
  | [] => W
  | v :: vs => setRow (W.setCell ⟨g, base, none⟩ v) g (base + 1) vs
theorem setsA_size : ∀ (vs : List Value) (c : Array Value) (base : Nat), (setsA c base vs).size = c.size
  | [], _, _ => rfl
  | v :: vs, c, base => by rw [setsA, setsA_size vs]; simp
theorem setsA_low : ∀ (vs : List Value) (c : Array Value) (base i : Nat), i < base → (setsA c base vs)[i]? = c[i]?
  | [], _, _, _, _ => rfl
  | v :: vs, c, base, i, h => by
    rw [setsA, setsA_low vs _ _ _ (by omega), Array.getElem?_setIfInBounds, if_neg (by omega)]
theorem setsA_high : ∀ (vs : List Value) (c : Array Value) (base i : Nat), base + vs.length ≤ i → (setsA c base vs)[i]? = c[i]?
  | [], _, _, _, _ => rfl
  | v :: vs, c, base, i, h => by
    simp only [List.length_cons] at h
    rw [setsA, setsA_high vs _ _ _ (by omega), Array.getElem?_setIfInBounds, if_neg (by omega)]
theorem setsA_at : ∀ (vs : List Value) (c : Array Value) (base o : Nat), o < vs.length → base + vs.length ≤ c.size → (setsA c base vs)[base + o]? = vs[o]?
  | [], _, _, _, h, _ => by simp at h
  | v :: vs, c, base, 0, h, hs => by
    simp only [List.length_cons] at hs
    rw [setsA, setsA_low vs _ _ _ (by omega), Nat.add_zero, Array.getElem?_setIfInBounds, if_pos rfl, if_pos (by omega)]
    rfl
  | v :: vs, c, base, o + 1, h, hs => by
    simp only [List.length_cons] at h hs
    rw [setsA, show base + (o + 1) = base + 1 + o by omega, setsA_at vs _ _ _ (by omega) (by simp; omega)]
    rfl
theorem setRow_row : ∀ (vs : List Value) {W : World} {g base : Nat} {c : Array Value} {T : TypeId} {fr : Nat × Nat}, W.heap[g]? = some (.cells c T fr) → (setRow W g base vs).heap[g]? = some (.cells (setsA c base vs) T fr)
  | [], _, _, _, _, _, _, h => h
  | v :: vs, _, _, base, _, _, _, h => setRow_row vs (blk_set h base v)
theorem setRow_gb : ∀ (vs : List Value) (W : World) (g base : Nat), W.grownBy (setRow W g base vs) (some g)
  | [], W, _, _ => gb_refl W _
  | v :: vs, W, g, base => gb_trans (gb_set (gb_refl W _) v) (setRow_gb vs _ g (base + 1))
/-- a row of so many specs, of which some are written -/
structure SpRow (c : Array Value) (N : Nat) (xs : List Spv) : Prop where
  size : c.size = N * 13
  done : ∀ j y, xs[j]? = some y → ∀ o, o < 13 → c[j * 13 + o]? = y.cells[o]?
  rest : ∀ j, xs.length ≤ j → j < N → ∀ o, o < 13 → c[j * 13 + o]? = Spv.zero.cells[o]?
theorem SpRow.next {c c' : Array Value} {N : Nat} {xs : List Spv} {y : Spv} (h : SpRow c N xs) (hs : c'.size = c.size) (hk : ∀ o, o < 13 → c'[xs.length * 13 + o]? = y.cells[o]?) (ho : ∀ i, i < xs.length * 13 ∨ xs.length * 13 + 13 ≤ i → c'[i]? = c[i]?) : SpRow c' N (xs ++ [y]) := by
  refine ⟨by rw [hs, h.size], fun j z hj o h13 => ?_, fun j hj hjN o h13 => ?_⟩
  · by_cases e : j < xs.length
    · rw [List.getElem?_append_left e] at hj
      rw [ho _ (.inl (by omega))]
      exact h.done j z hj o h13
    · rw [List.getElem?_append_right (by omega)] at hj
      have hj0 : j - xs.length = 0 := by
        have := (List.getElem?_eq_some_iff.1 hj).1
        simp at this
        omega
      rw [hj0] at hj
      have : z = y := by simpa using hj.symm
      subst this
      rw [show j = xs.length by omega]
      exact hk o h13
  · simp only [List.length_append, List.length_cons, List.length_nil] at hj
    rw [ho _ (.inr (by omega))]
    exact h.rest j (by omega) hjN o h13
end Go.Proofs.YteoihdkaoipocaaGreatDoor

/- spec.Expand: the jobs of an array. -/
namespace Go.Proofs.YteoihdkaoipocaaGreatDoor
open Go.RowKit Go.Maps Go.Shelf Go.Sort

/-- what a copy of numbers is -/
def CloPost (n : Nat) (l : List Int) (W : World) (e : Ending) (w' : World) : Prop :=
  ∃ so' c', e = .returned (.slice so' n c') ∧ n ≤ c' ∧ IntsAt w' so' n l ∧ (∀ b o, so' = some ⟨b, o, none⟩ → o = 0 ∧ W.heap.size ≤ b ∧ b < w'.heap.size ∧ ∃ cc, w'.heap[b]? = some (.cells cc 3 (0, 0))) ∧ Below W.heap.size W w'
/-- what an array's jobs are, so far -/
structure ExpG (w : World) (x : Spv) (g N : Nat) (xs : List Spv) (W : World) : Prop where
  low : Below w.heap.size w W
  glt : w.heap.size < g
  row : ∃ c, W.heap[g]? = some (.cells c 26 (0, 0)) ∧ SpRow c N xs
  one : ∀ (j : Nat) (y : Spv), xs[j]? = some y → y.pl = x.single.pl ∧ y.n = x.n ∧ y.n ≤ y.c ∧ IntsAt W y.so y.n x.pl.after ∧ ∀ b o, y.so = some ⟨b, o, none⟩ → o = 0 ∧ g < b ∧ b < W.heap.size ∧ ∃ cc, W.heap[b]? = some (.cells cc 3 (0, 0))
  apart : ∀ (i j : Nat) (y z : Spv) (b o o' : Nat), xs[i]? = some y → xs[j]? = some z → i < j → y.so = some ⟨b, o, none⟩ → z.so ≠ some ⟨b, o', none⟩
structure ExpW (w : World) (x : Spv) (g N : Nat) (xs : List Spv) (W : World) : Prop extends ExpG w x g N xs W where
  box : W.heap[w.heap.size]? = some (.cells x.cells 26 (0, 0))
def ExpPost (x : Spv) (w : World) (e : Ending) (w' : World) : Prop :=
  (mayS x.pl = false ∧ e = .returned (.slice none 0 0) ∧ Below w.heap.size w w') ∨ (mayS x.pl = true ∧ ∃ g xs, e = .returned (.slice (some ⟨g, 0, none⟩) (expN x.pl) (expN x.pl)) ∧ xs.length = expN x.pl ∧ ExpG w x g (expN x.pl) xs w')
/-- one job more -/
theorem ExpW.next {w : World} {x : Spv} {g N : Nat} {xs : List Spv} {W W5 : World} (h : ExpW w x g N xs W) (hN : xs.length < N) (so' : Option Addr) (c' : Nat) (hnc : x.n ≤ c')
    (hi : IntsAt W5 so' x.n x.pl.after) (hfr : ∀ b o, so' = some ⟨b, o, none⟩ → o = 0 ∧ W.heap.size ≤ b ∧ b < W5.heap.size ∧ ∃ cc, W5.heap[b]? = some (.cells cc 3 (0, 0)))
    (hb : Below ((setRow W g (xs.length * 13) x.cells.toList).setCell ⟨g, xs.length * 13 + 9, none⟩ (.int .i64 1)).heap.size ((setRow W g (xs.length * 13) x.cells.toList).setCell ⟨g, xs.length * 13 + 9, none⟩ (.int .i64 1)) W5) :
    ExpW w x g N (xs ++ [⟨x.single.pl, so', x.n, c'⟩]) (W5.setCell ⟨g, xs.length * 13 + 12, none⟩ (.slice so' x.n c')) := by
  obtain ⟨c, hrow, hsp⟩ := h.row
  have hglt := blk_lt hrow
  have g1 := setRow_gb x.cells.toList W g (xs.length * 13)
  have g2 := gb_set (o := xs.length * 13 + 9) g1 (.int .i64 1)
  have g3 := gb_trans g2 (gb_below hb (some g))
  have g4 := gb_set (o := xs.length * 13 + 12) g3 (.slice so' x.n c')
  have r1 := setRow_row x.cells.toList (base := xs.length * 13) hrow
  have r2 := blk_set r1 (xs.length * 13 + 9) (.int .i64 1)
  have r3 := blk_below hb r2 (blk_lt r2)
  have r4 := blk_set r3 (xs.length * 13 + 12) (.slice so' x.n c')
  have hsz : xs.length * 13 + 13 ≤ c.size := by rw [hsp.size]; omega
  have hkeep : ∀ b, b ≠ g → b < W.heap.size → (W5.setCell ⟨g, xs.length * 13 + 12, none⟩ (.slice so' x.n c')).heap[b]? = W.heap[b]? := fun b hne hlt => g4.block b hlt (fun e => hne (by injection e with e))
  have hsz5 : W.heap.size ≤ W5.heap.size := g3.size
  have hss : (W5.setCell ⟨g, xs.length * 13 + 12, none⟩ (.slice so' x.n c')).heap.size = W5.heap.size := by simp [World.setCell]
  refine ⟨⟨below_gb h.low g4 h.low.size (Nat.le_of_lt h.glt), h.glt, ⟨_, r4, hsp.next (y := ⟨x.single.pl, so', x.n, c'⟩) ?_ ?_ ?_⟩, fun j y hj => ?_, fun i j y z b o o' hi' hj' hij hy hz => ?_⟩, (hkeep _ (by have := h.glt; omega) (blk_lt h.box)).trans h.box⟩
  · simp [setsA_size]
  · intro o ho
    have hlen : x.cells.toList.length = 13 := rfl
    rw [Array.getElem?_setIfInBounds]
    by_cases e12 : o = 12
    · subst e12
      rw [if_pos rfl, if_pos (by simp [setsA_size]; omega)]
      rfl
    · rw [if_neg (by omega), Array.getElem?_setIfInBounds]
      by_cases e9 : o = 9
      · subst e9
        rw [if_pos rfl, if_pos (by rw [setsA_size]; omega)]
        rfl
      · rw [if_neg (by omega), setsA_at _ _ _ _ (by rw [hlen]; omega) (by rw [hlen]; omega)]
        rcases (show o = 0 ∨ o = 1 ∨ o = 2 ∨ o = 3 ∨ o = 4 ∨ o = 5 ∨ o = 6 ∨ o = 7 ∨ o = 8 ∨ o = 10 ∨ o = 11 by omega) with rfl | rfl | rfl | rfl | rfl | rfl | rfl | rfl | rfl | rfl | rfl <;> rfl
  · intro i hi'
    have hlen : x.cells.toList.length = 13 := rfl
    rw [Array.getElem?_setIfInBounds, if_neg (by omega), Array.getElem?_setIfInBounds, if_neg (by omega)]
    rcases hi' with h1 | h1
    · exact setsA_low _ _ _ _ h1
    · exact setsA_high _ _ _ _ (by rw [hlen]; omega)
  · by_cases e : j < xs.length
    · rw [List.getElem?_append_left e] at hj
      obtain ⟨a1, a2, a3, a4, a5⟩ := h.one j y hj
      refine ⟨a1, a2, a3, ints_gb a4 g4 fun b o e => by have := (a5 b o e).2.1; omega, fun b o e => ?_⟩
      obtain ⟨b1, b2, b3, cc, b4⟩ := a5 b o e
      exact ⟨b1, b2, by rw [hss]; omega, cc, (hkeep b (by omega) b3).trans b4⟩
    · rw [List.getElem?_append_right (by omega)] at hj
      have hj0 : j - xs.length = 0 := by
        have := (List.getElem?_eq_some_iff.1 hj).1
        simp at this
        omega
      rw [hj0] at hj
      have hy : y = ⟨x.single.pl, so', x.n, c'⟩ := by simpa using hj.symm
      subst hy
      have hne : ∀ b o, so' = some ⟨b, o, none⟩ → b ≠ g := fun b o e => by have := (hfr b o e).2.1; omega
      refine ⟨rfl, rfl, hnc, ints_gb hi (gb_set (gb_refl W5 (some g)) _) hne, fun b o e => ?_⟩
      obtain ⟨b1, b2, b3, cc, b4⟩ := hfr b o e
      exact ⟨b1, by omega, by rw [hss]; exact b3, cc, blk_set_other (hne b o e) _ b4⟩
  · by_cases e : j < xs.length
    · rw [List.getElem?_append_left e] at hj'
      rw [List.getElem?_append_left (by omega)] at hi'
      exact h.apart i j y z b o o' hi' hj' hij hy hz
    · rw [List.getElem?_append_right (by omega)] at hj'
      have hj0 : j - xs.length = 0 := by
        have := (List.getElem?_eq_some_iff.1 hj').1
        simp at this
        omega
      rw [hj0] at hj'
      have hzz : z = ⟨x.single.pl, so', x.n, c'⟩ := by simpa using hj'.symm
      subst hzz
      have hi2 : i < xs.length := by
        have := (List.getElem?_eq_some_iff.1 hj').1
        omega
      rw [List.getElem?_append_left hi2] at hi'
      have q1 := ((h.one i y hi').2.2.2.2 b o hy).2.2.1
      have q2 := (hfr b o' hz).2.1
      omega
end Go.Proofs.YteoihdkaoipocaaGreatDoor

/- spec.Expand, its walk. -/
namespace Go.Proofs.YteoihdkaoipocaaGreatDoor
open Go.RowKit Go.Maps Go.Shelf Go.Sort

end Go.Proofs.YteoihdkaoipocaaGreatDoor

/- corveeref08.Rows: are two rows of specs the same? -/
namespace Go.Proofs.YteoihdkaoipocaaGreatDoor
open Go.RowKit Go.Maps Go.Shelf Go.Sort

/-- a row of specs in memory -/
structure SpsAt (w : World) (so : Option Addr) (n : Nat) (xs : List Spv) : Prop where
  len : xs.length = n
  max : n ≤ 9223372036854775807
  cell : ∀ (i : Nat) (x : Spv), xs[i]? = some x → ∃ b off, so = some ⟨b, off, none⟩ ∧ b < w.heap.size ∧ (∀ j, j < 13 → w.cell? ⟨b, off + i * 13 + j, none⟩ = x.cells[j]?) ∧ x.ok w
theorem SpsAt.low {w w' : World} {so : Option Addr} {n : Nat} {xs : List Spv} (h : SpsAt w so n xs) (hb : Below w.heap.size w w') : SpsAt w' so n xs :=
  ⟨h.len, h.max, fun i x hx => by
    obtain ⟨b, off, e, hlt, hc, ho⟩ := h.cell i x hx
    exact ⟨b, off, e, Nat.lt_of_lt_of_le hlt hb.size, fun j hj => (below_cell hb hlt).trans (hc j hj), ho.low hb⟩⟩
def RowsPost (xs ys : List Spv) (w : World) (e : Ending) (w' : World) : Prop := e = .returned (.bool (decide (xs.map Spv.pl = ys.map Spv.pl))) ∧ Below w.heap.size w w'
structure RwC (w : World) (q : Bool) (bv : Value) (wx : World) : Prop where
  b : bv = .bool q
  low : Below w.heap.size w wx
set_option maxRecDepth 100000 in
set_option maxHeartbeats 3200000 in
theorem rows_any (ao bo : Option Addr) (n m c c' : Nat) (xs ys : List Spv) (w : World) (hx : SpsAt w ao n xs) (hy : SpsAt w bo m ys) : Calls Tryz.prog 57 #[.slice ao n c, .slice bo m c'] w (RowsPost xs ys w) := by
  have hlx := hx.len
  have hly := hy.len
  have hmx := hx.max
  by_cases q : n = m
  rotate_left
  · have d : ((n : Int) != (m : Int)) = true := by rw [bne_iff_ne]; omega
    have hne : decide (xs.map Spv.pl = ys.map Spv.pl) = false := decide_eq_false fun h => q (by have := congrArg List.length h; simp at this; omega)
    replace hx := Lib.hid hx; replace hy := Lib.hid hy; replace hlx := Lib.hid hlx; replace hly := Lib.hid hly; replace q := Lib.hid q; replace hne := Lib.hid hne
    go_enter Tryz.func57, Tryz.ntmps57
    go_wp2
    go_ret
    exact ⟨by rw [hne.out]; rfl, Below.refl _ _⟩
  subst q
  have d : ((n : Int) != (n : Int)) = false := by simp
  replace hx := Lib.hid hx; replace hy := Lib.hid hy; replace hlx := Lib.hid hlx; replace hly := Lib.hid hly
  go_enter Tryz.func57, Tryz.ntmps57
  go_wp2
  go_loopw [5, 6] (fun i _ wr => ∃ k : Nat, i = .int .i64 k ∧ k ≤ n ∧ Hid (∀ j, j < k → (xs.map Spv.pl)[j]? = (ys.map Spv.pl)[j]?) ∧ Hid (Below w.heap.size w wr)) (fun i _ _ => n - (intOf i).toNat)
  case atStart => exact ⟨0, rfl, Nat.zero_le _, (fun j h => by omega), Below.refl _ _⟩
  case round =>
    obtain ⟨k, rfl, hk, hall, hB⟩ := hrel
    by_cases hc : k < n
    · have hc1 : (k : Int) < n := by omega
      have hk0 : (0 : Int) ≤ (k : Int) := by omega
      obtain ⟨x, hx1⟩ : ∃ x, xs[k]? = some x := ⟨_, List.getElem?_eq_getElem (by have := hlx.out; omega)⟩
      obtain ⟨y, hy1⟩ : ∃ y, ys[k]? = some y := ⟨_, List.getElem?_eq_getElem (by have := hly.out; omega)⟩
      obtain ⟨b, off, rfl, hb, hcx, hox⟩ := (hx.out.low hB.out).cell k x hx1
      obtain ⟨b', off', rfl, hb', hcy, hoy⟩ := (hy.out.low hB.out).cell k y hy1
      have hsm := fun W (h : Below wr.heap.size wr W) => same_any8 x y W (hox.low h) (hoy.low h)
      unfold SamePost at hsm
      obtain ⟨q, hq⟩ : ∃ q, q = decide (x.pl = y.pl) := ⟨_, rfl⟩
      simp only [← hq] at hsm
      have hstep : q = true → ∀ j, j < k + 1 → (xs.map Spv.pl)[j]? = (ys.map Spv.pl)[j]? := fun hqt j hj => by
        by_cases e : j = k
        · subst e
          rw [List.getElem?_map, List.getElem?_map, hx1, hy1]
          rw [hqt] at hq
          exact congrArg some (of_decide_eq_true hq.symm)
        · exact hall.out j (by omega)
      have hbad : q = false → decide (xs.map Spv.pl = ys.map Spv.pl) = false := fun hqf => decide_eq_false fun h => by
        have h2 := congrArg (fun l => l[k]?) h
        simp only [List.getElem?_map, hx1, hy1, Option.map_some] at h2
        rw [hqf] at hq
        exact of_decide_eq_false hq.symm (Option.some.inj h2)
      obtain ⟨⟨user, part, nodes, ⟨da, db, dc, dd⟩, wall, prio, array, retries, held, after⟩, so, n1, cp⟩ := x
      obtain ⟨⟨user', part', nodes', ⟨da', db', dc', dd'⟩, wall', prio', array', retries', held', after'⟩, so', n1', cp'⟩ := y
      replace hcx := Lib.hid hcx; replace hcy := Lib.hid hcy
      have hS : ∀ W' : World, Below wr.heap.size wr W' → W'.cell? ⟨b, off + k * 13, none⟩ = some (.string user) ∧ W'.cell? ⟨b, off + k * 13 + 1, none⟩ = some (.string part) ∧ W'.cell? ⟨b, off + k * 13 + 2, none⟩ = some (.int .i64 nodes) ∧ W'.cell? ⟨b, off + k * 13 + 3, none⟩ = some (.int .i64 da) ∧ W'.cell? ⟨b, off + k * 13 + 4, none⟩ = some (.int .i64 db) ∧ W'.cell? ⟨b, off + k * 13 + 5, none⟩ = some (.int .i64 dc) ∧ W'.cell? ⟨b, off + k * 13 + 6, none⟩ = some (.int .i64 dd) ∧ W'.cell? ⟨b, off + k * 13 + 7, none⟩ = some (.int .i64 wall) ∧ W'.cell? ⟨b, off + k * 13 + 8, none⟩ = some (.int .i64 prio) ∧ W'.cell? ⟨b, off + k * 13 + 9, none⟩ = some (.int .i64 array) ∧ W'.cell? ⟨b, off + k * 13 + 10, none⟩ = some (.int .i64 retries) ∧ W'.cell? ⟨b, off + k * 13 + 11, none⟩ = some (.bool held) ∧ W'.cell? ⟨b, off + k * 13 + 12, none⟩ = some (.slice so n1 cp) ∧ W'.cell? ⟨b', off' + k * 13, none⟩ = some (.string user') ∧ W'.cell? ⟨b', off' + k * 13 + 1, none⟩ = some (.string part') ∧ W'.cell? ⟨b', off' + k * 13 + 2, none⟩ = some (.int .i64 nodes') ∧ W'.cell? ⟨b', off' + k * 13 + 3, none⟩ = some (.int .i64 da') ∧ W'.cell? ⟨b', off' + k * 13 + 4, none⟩ = some (.int .i64 db') ∧ W'.cell? ⟨b', off' + k * 13 + 5, none⟩ = some (.int .i64 dc') ∧ W'.cell? ⟨b', off' + k * 13 + 6, none⟩ = some (.int .i64 dd') ∧ W'.cell? ⟨b', off' + k * 13 + 7, none⟩ = some (.int .i64 wall') ∧ W'.cell? ⟨b', off' + k * 13 + 8, none⟩ = some (.int .i64 prio') ∧ W'.cell? ⟨b', off' + k * 13 + 9, none⟩ = some (.int .i64 array') ∧ W'.cell? ⟨b', off' + k * 13 + 10, none⟩ = some (.int .i64 retries') ∧ W'.cell? ⟨b', off' + k * 13 + 11, none⟩ = some (.bool held') ∧ W'.cell? ⟨b', off' + k * 13 + 12, none⟩ = some (.slice so' n1' cp') := fun W' h =>
        ⟨(below_cell h hb).trans (hcx.out 0 (by omega)), (below_cell h hb).trans (hcx.out 1 (by omega)), (below_cell h hb).trans (hcx.out 2 (by omega)), (below_cell h hb).trans (hcx.out 3 (by omega)), (below_cell h hb).trans (hcx.out 4 (by omega)), (below_cell h hb).trans (hcx.out 5 (by omega)), (below_cell h hb).trans (hcx.out 6 (by omega)), (below_cell h hb).trans (hcx.out 7 (by omega)), (below_cell h hb).trans (hcx.out 8 (by omega)), (below_cell h hb).trans (hcx.out 9 (by omega)), (below_cell h hb).trans (hcx.out 10 (by omega)), (below_cell h hb).trans (hcx.out 11 (by omega)), (below_cell h hb).trans (hcx.out 12 (by omega)), (below_cell h hb').trans (hcy.out 0 (by omega)), (below_cell h hb').trans (hcy.out 1 (by omega)), (below_cell h hb').trans (hcy.out 2 (by omega)), (below_cell h hb').trans (hcy.out 3 (by omega)), (below_cell h hb').trans (hcy.out 4 (by omega)), (below_cell h hb').trans (hcy.out 5 (by omega)), (below_cell h hb').trans (hcy.out 6 (by omega)), (below_cell h hb').trans (hcy.out 7 (by omega)), (below_cell h hb').trans (hcy.out 8 (by omega)), (below_cell h hb').trans (hcy.out 9 (by omega)), (below_cell h hb').trans (hcy.out 10 (by omega)), (below_cell h hb').trans (hcy.out 11 (by omega)), (below_cell h hb').trans (hcy.out 12 (by omega))⟩
      have hcur : Below wr.heap.size wr wr.drew := (Below.refl _ _).drew
      replace hx1 := Lib.hid hx1; replace hy1 := Lib.hid hy1; replace hox := Lib.hid hox; replace hoy := Lib.hid hoy; replace hsm := Lib.hid hsm; replace hq := Lib.hid hq; replace hstep := Lib.hid hstep; replace hbad := Lib.hid hbad; replace hS := Lib.hid hS; replace hcur := Lib.hid hcur
      go_upto_region 6 with fail
      go_cut [6] (fun bv wx => RwC wr q bv wx)
      case first =>
        go_region_held3 (fun W' => W'.cell? ⟨b, off + k * 13, none⟩ = some (.string user) ∧ W'.cell? ⟨b, off + k * 13 + 1, none⟩ = some (.string part) ∧ W'.cell? ⟨b, off + k * 13 + 2, none⟩ = some (.int .i64 nodes) ∧ W'.cell? ⟨b, off + k * 13 + 3, none⟩ = some (.int .i64 da) ∧ W'.cell? ⟨b, off + k * 13 + 4, none⟩ = some (.int .i64 db) ∧ W'.cell? ⟨b, off + k * 13 + 5, none⟩ = some (.int .i64 dc) ∧ W'.cell? ⟨b, off + k * 13 + 6, none⟩ = some (.int .i64 dd) ∧ W'.cell? ⟨b, off + k * 13 + 7, none⟩ = some (.int .i64 wall) ∧ W'.cell? ⟨b, off + k * 13 + 8, none⟩ = some (.int .i64 prio) ∧ W'.cell? ⟨b, off + k * 13 + 9, none⟩ = some (.int .i64 array) ∧ W'.cell? ⟨b, off + k * 13 + 10, none⟩ = some (.int .i64 retries) ∧ W'.cell? ⟨b, off + k * 13 + 11, none⟩ = some (.bool held) ∧ W'.cell? ⟨b, off + k * 13 + 12, none⟩ = some (.slice so n1 cp) ∧ W'.cell? ⟨b', off' + k * 13, none⟩ = some (.string user') ∧ W'.cell? ⟨b', off' + k * 13 + 1, none⟩ = some (.string part') ∧ W'.cell? ⟨b', off' + k * 13 + 2, none⟩ = some (.int .i64 nodes') ∧ W'.cell? ⟨b', off' + k * 13 + 3, none⟩ = some (.int .i64 da') ∧ W'.cell? ⟨b', off' + k * 13 + 4, none⟩ = some (.int .i64 db') ∧ W'.cell? ⟨b', off' + k * 13 + 5, none⟩ = some (.int .i64 dc') ∧ W'.cell? ⟨b', off' + k * 13 + 6, none⟩ = some (.int .i64 dd') ∧ W'.cell? ⟨b', off' + k * 13 + 7, none⟩ = some (.int .i64 wall') ∧ W'.cell? ⟨b', off' + k * 13 + 8, none⟩ = some (.int .i64 prio') ∧ W'.cell? ⟨b', off' + k * 13 + 9, none⟩ = some (.int .i64 array') ∧ W'.cell? ⟨b', off' + k * 13 + 10, none⟩ = some (.int .i64 retries') ∧ W'.cell? ⟨b', off' + k * 13 + 11, none⟩ = some (.bool held') ∧ W'.cell? ⟨b', off' + k * 13 + 12, none⟩ = some (.slice so' n1' cp'))
          (first
            | with_reducible exact hS.out _ hcur.out)
          (first
            | (go_at_call 94
               (with_reducible refine (hsm.out _ hcur.out).mono ?_)
               rintro e wz ⟨rfl, hbz⟩
               replace hcur := Lib.hid (hcur.out.trans (hbz.mono hcur.out.size))
               clear hbz))
        all_goals
          go_wp2_with fail
          go_meet
          case rel => exact ⟨rfl, hcur.out⟩
      case rest =>
      obtain ⟨rfl, hl9⟩ := hcut
      have hlow9 := hB.out.trans (hl9.mono hB.out.size)
      replace hl9 := Lib.hid hl9; replace hlow9 := Lib.hid hlow9
      cases q with
      | true =>
        have hall2 := hstep.out rfl
        replace hall2 := Lib.hid hall2
        go_wp2
        go_roundw
        case rel => exact ⟨k + 1, by go_num, by omega, hall2.out, hlow9.out⟩
        case measure => simp [intOf]; omega
      | false =>
        have hz := hbad.out rfl
        replace hz := Lib.hid hz
        go_wp2
        go_ret
        exact ⟨by rw [hz.out]; rfl, hlow9.out⟩
    · have hc1 : ¬ (k : Int) < n := by omega
      have hkn : k = n := by omega
      have hz : decide (xs.map Spv.pl = ys.map Spv.pl) = true := decide_eq_true (List.ext_getElem? fun j => by
        by_cases e : j < n
        · exact hall.out j (by omega)
        · rw [List.getElem?_eq_none (by rw [List.length_map]; have := hlx.out; omega), List.getElem?_eq_none (by rw [List.length_map]; have := hly.out; omega)])
      replace hz := Lib.hid hz
      go_wp2
      go_ret
      exact ⟨by rw [hz.out]; rfl, hB.out⟩
end Go.Proofs.YteoihdkaoipocaaGreatDoor
