/- Parts Cdu, Cdt, Rdg, Rdu, Rdt in one text. Plain theorems: no condition. -/
import Derived.Test.YteoihdkaoipocaaDoorVa
import Derived.Lib.VarintMem
import Derived.Lib.BufferWrite
import Derived.Laws.CopyOwn
import Derived.OwnWalk
import Derived.Lib.AppendStr
import Derived.Lib.VarintBits
import Derived.Deep.DeepCutAuto
import Derived.Deep.CutRange
import Derived.Laws.IdiomStrings
import Derived.Laws.BytesArg
/- code.Uint, code.Int, code.Text: numbers and texts put behind bytes. Plain theorems: no condition. -/
namespace Go.Proofs.YteoihdkaoipocaaDoor
open Go.RowKit Go.Maps

/-- bytes in memory -/
structure BytsAt (w : World) (so : Option Addr) (n : Nat) (l : List UInt8) : Prop where
  len : l.length = n
  max : n ≤ 9223372036854775807
  cell : ∀ i x, l[i]? = some x → ∃ b off, so = some ⟨b, off, none⟩ ∧ b < w.heap.size ∧ w.cell? ⟨b, off + i, none⟩ = some (.int .u8 x.toNat)
theorem BytsAt.low {w w' : World} {so : Option Addr} {n : Nat} {l : List UInt8} (h : BytsAt w so n l) (hb : Below w.heap.size w w') : BytsAt w' so n l :=
  ⟨h.len, h.max, fun i x hx => by
    obtain ⟨b, off, e, hlt, hc⟩ := h.cell i x hx
    exact ⟨b, off, e, Nat.lt_of_lt_of_le hlt hb.size, (below_cell hb hlt).trans hc⟩⟩
theorem byts_nil (w : World) : BytsAt w none 0 [] := ⟨rfl, by omega, fun i x h => by simp at h⟩
/-- bytes of one's own -/
structure OwnB (w : World) (B : Nat) (v : Value) (l : List UInt8) : Prop where
  row : w.ownsRow B 5 1 v l.length (Lib.byteCells l)
theorem OwnB.low {w w' : World} {B : Nat} {v : Value} {l : List UInt8} (h : OwnB w B v l) (hb : Below w.heap.size w w') : OwnB w' B v l := by
  refine ⟨h.row.1, ?_⟩
  rcases h.row.2 with ⟨hv, h0⟩ | ⟨g, cap, cur, hv, hg, hh, hr⟩
  · exact .inl ⟨hv, h0⟩
  · exact .inr ⟨g, cap, cur, hv, hg, blk_below hb hh (blk_lt hh), hr⟩
theorem OwnB.base {w : World} {B B' : Nat} {v : Value} {l : List UInt8} (h : OwnB w B v l) (hB : B' ≤ B) : OwnB w B' v l := by
  refine ⟨h.row.1, ?_⟩
  rcases h.row.2 with h | ⟨g, cap, cur, hv, hg, hh, hr⟩
  · exact .inl h
  · exact .inr ⟨g, cap, cur, hv, by omega, hh, hr⟩
theorem OwnB.form {w : World} {B : Nat} {v : Value} {l : List UInt8} (h : OwnB w B v l) : ∃ so c, v = .slice so l.length c ∧ BytsAt w so l.length l := by
  rcases h.row.2 with ⟨hv, h0⟩ | ⟨g, cap, cur, hv, hg, hh, hnc, hmx, hsz, hr⟩
  · have e : l = [] := List.eq_nil_of_length_eq_zero h0
    subst e
    exact ⟨none, 0, hv, byts_nil w⟩
  · refine ⟨some ⟨g, 0, none⟩, cap, hv, rfl, ?_, fun i x hx => ⟨g, 0, rfl, blk_lt hh, ?_⟩⟩
    · have : maxLen = 9223372036854775807 := by kernel_rfl
      omega
    · have hi := (List.getElem?_eq_some_iff.1 hx).1
      rw [Nat.zero_add, blk_cell hh]
      have h2 : (Lib.byteCells l)[i]? = some (.int .u8 x.toNat) := by
        unfold Lib.byteCells
        rw [List.getElem?_map, hx]
        rfl
      rw [← hr, List.getElem?_take_of_lt (by omega)] at h2
      simpa using h2
theorem info5b : (Tryd.prog.info? 5).map (fun i => (i.zero, i.size, i.bytes)) = some (some (.int .u8 0), 1, 1) := by kernel_rfl
theorem info5s : (Tryd.prog.info? 5).map (·.size) = some 1 := by kernel_rfl
theorem byts_cells {w : World} {so : Option Addr} {n : Nat} {l : List UInt8} (h : BytsAt w so n l) (h0 : 0 < (Lib.byteCells l).length) : ∃ ad, so = some ad ∧ ∀ j v, (Lib.byteCells l)[j]? = some v → w.cell? (ad.add j) = some v := by
  rw [Lib.byteCells_length] at h0
  obtain ⟨x, hx⟩ : ∃ x, l[0]? = some x := ⟨_, List.getElem?_eq_getElem h0⟩
  obtain ⟨b, off, rfl, _, _⟩ := h.cell 0 x hx
  refine ⟨_, rfl, fun j v hv => ?_⟩
  unfold Lib.byteCells at hv
  rw [List.getElem?_map] at hv
  obtain ⟨y, hy, rfl⟩ := Option.map_eq_some_iff.1 hv
  obtain ⟨b', off', e, _, hc⟩ := h.cell j y hy
  simp only [Option.some.injEq, Addr.mk.injEq, and_true] at e
  obtain ⟨rfl, rfl⟩ := e
  rw [show (⟨b, off, none⟩ : Addr).add j = ⟨b, off + j, none⟩ by unfold Addr.add; cases j <;> rfl]
  exact hc
structure CuC (w : World) (l : List UInt8) (v : Value) (wx : World) : Prop where
  own : OwnB wx w.heap.size v l
  low : Below w.heap.size w wx
set_option maxRecDepth 100000 in
set_option maxHeartbeats 3200000 in
theorem cuint_any (so : Option Addr) (n c : Nat) (l : List UInt8) (x : Nat) (w : World) (hx : x < 18446744073709551616) (hb : BytsAt w so n l) (hn : n ≤ 1099511627776) :
    Calls Tryd.prog 125 #[.slice so n c, .int .u64 x] w fun e w' => ∃ v, e = .returned v ∧ OwnB w' w.heap.size v (l ++ uintB x) ∧ Below w.heap.size w w' := by
  obtain ⟨i0, hi, hz0, hz1, hz2⟩ := info_parts info5b
  have hten := uintB_ten hx
  have hll := hb.len
  have mx : maxLen = 9223372036854775807 := by kernel_rfl
  have hmk : ∀ u : World, (Instr.makeSlice 67 (.int .i64 (n : Int)) (.int .i64 ((n : Int) + 10))).run Tryd.prog u =
      .ok (.slice (some ⟨u.heap.size, 0, none⟩) n (n + 10)) (u.alloc (.cells (madeCells #[.int .u8 0] (n + 10)) 5)) := fun u => by
    have h := run_make (P := Tryd.prog) u 67 5 i0 (.int .u8 0) Tryd.underlying67 hi hz0 .i64 .i64 (n : Int) ((n : Int) + 10) (by omega) (by omega) (by rw [hz2]; omega) (by omega)
    have e : ((n : Int) + 10).toNat = n + 10 := by omega
    rw [e] at h
    simpa [hz1, Value.cells] using h
  obtain ⟨cur, hcur⟩ : ∃ cur, cur = List.replicate (n + 10) (Value.int .u8 0) := ⟨_, rfl⟩
  obtain ⟨cs, hcs⟩ : ∃ cs, cs = Lib.byteCells l := ⟨_, rfl⟩
  have hcsl : cs.length = n := by rw [hcs, Lib.byteCells_length, hll]
  have hg : (w.alloc (.cells (madeCells #[.int .u8 0] (n + 10)) 5)).heap[w.heap.size]? = some (.cells cur.toArray 5 (0, 0)) := by
    rw [blk_new]
    have : (madeCells #[.int .u8 0] (n + 10)) = cur.toArray := by
      apply Array.toList_inj.1
      rw [toList_madeCells_one, hcur]
    rw [this]
  have hal : Below w.heap.size w (w.alloc (.cells (madeCells #[.int .u8 0] (n + 10)) 5)) := (Below.refl _ _).alloc (Nat.le_refl _) _
  have hpos : 0 < cs.length → ∃ ad, so = some ad ∧ ∀ j v, cs[j]? = some v → (w.alloc (.cells (madeCells #[.int .u8 0] (n + 10)) 5)).cell? (ad.add j) = some v := fun h0 => by
    rw [hcs] at h0 ⊢
    exact byts_cells (hb.low hal) h0
  have hfit : 0 + cs.length ≤ cur.length := by rw [hcsl, hcur, List.length_replicate]; omega
  have hone : ∀ v ∈ cs, v.oneCell' = true := by rw [hcs]; exact Lib.byteCells_one l
  have hmin : cs.length = Nat.min n n := by rw [hcsl]; exact (Nat.min_self n).symm
  have hstart : ∀ w', w'.heap[w.heap.size]? = some (.cells (splice cur 0 cs).toArray 5 (0, 0)) → OwnB w' w.heap.size (.slice (some ⟨w.heap.size, 0, none⟩) n (n + 10)) l := fun w' h => by
    refine ⟨?_, .inr ⟨w.heap.size, n + 10, _, ?_, Nat.le_refl _, h, ?_, ?_, ?_, ?_⟩⟩
    · rw [Lib.byteCells_length, Nat.mul_one]
    · rw [hll]
    · omega
    · omega
    · rw [List.size_toArray, length_splice _ _ _ hfit, hcur, List.length_replicate, Nat.mul_one]
    · show (splice cur 0 cs).take _ = _
      unfold splice
      rw [List.take_zero, List.nil_append, hcs, Nat.mul_one, List.take_left' (Lib.byteCells_length l)]
  replace hb := Lib.hid hb; replace hi := Lib.hid hi; replace hz0 := Lib.hid hz0; replace hz1 := Lib.hid hz1; replace hz2 := Lib.hid hz2; replace hcur := Lib.hid hcur; replace hcs := Lib.hid hcs; replace hg := Lib.hid hg; replace hal := Lib.hid hal; replace hpos := Lib.hid hpos; replace hfit := Lib.hid hfit; replace hone := Lib.hid hone; replace hmin := Lib.hid hmin; replace hstart := Lib.hid hstart; replace hll := Lib.hid hll; replace hcsl := Lib.hid hcsl
  go_enter Tryd.func125, Tryd.ntmps125
  go_wp2_with (refine wpList_copy_splice rfl (.tmp 12) (.tmp 13) 67 67 rfl 5 Tryd.underlying67 info5s _ _ _ _ _ _ rfl rfl w.heap.size 0 cur 5 hg.out cs hmin.out (fun h0 => ⟨rfl, hpos.out h0⟩) hfit.out hone.out w.heap.size w hal.out (Nat.le_refl _) ?_; intro w1 hrow hlow1; replace hlow1 := Lib.hid hlow1; simp only [Act.put, goInt, List.setIfInBounds_toArray, List.set_cons_succ, List.set_cons_zero])
  have hO1 := hstart.out w1 hrow.out
  replace hO1 := Lib.hid hO1
  go_wp2
  go_loopw [1, 5] (fun vx vb wr => ∃ (y : Nat) (pre : List UInt8), vx = .int .u64 y ∧ y ≤ x ∧ Hid (uintB x = pre ++ uintB y) ∧ Hid (CuC w (l ++ pre) vb wr)) (fun vx _ _ => (intOf vx).toNat)
  case atStart => exact ⟨x, [], rfl, Nat.le_refl _, rfl, ⟨by rw [List.append_nil]; exact hO1.out, hlow1.out⟩⟩
  case round =>
    obtain ⟨y, pre, rfl, hy, hsp, hC⟩ := hrel
    have hpl : pre.length + (uintB y).length ≤ 10 := by
      have h2 := congrArg List.length hsp.out
      rw [List.length_append] at h2
      omega
    have hyp : 1 ≤ (uintB y).length := Lib.uvarint_pos y
    have hcl : (l ++ pre).length = n + pre.length := by rw [List.length_append, hll.out]
    have hbase : w.heap.size ≤ wr.heap.size := hC.out.low.size
    by_cases h128 : 128 ≤ y
    · have hor : bits .or .u8 ((y : Int) % 256) 128 = ((y % 128 + 128 : Nat) : Int) := by
        rw [Lib.u8_or128_any _ (by omega) (by omega)]
        omega
      have hown := hC.out.own.row
      have hown1 := hown.alloc (.cells #[.int .u8 ((y % 128 + 128 : Nat) : Int)] 5)
      have hgl : ∀ k, u5.ownBlock = some k → w.heap.size ≤ k ∧ k < wr.heap.size := fun k hk => ⟨(hown.lt k hk).1, (hown.lt k hk).2⟩
      replace hsp := Lib.hid hsp; replace hC := Lib.hid hC; replace hown1 := Lib.hid hown1; replace hgl := Lib.hid hgl; replace hown := Lib.hid hown; replace hcl := Lib.hid hcl
      go_wp2_with (at_builtin; refine wpList_append_own _ rfl _ _ 67 rfl w.heap.size 5 i0 (.int .u8 0) 1 1 Tryd.underlying67 hi.out hz0.out hz1.out hz2.out rfl (by decide) _ _ _ rfl hown1.out ⟨wr.heap.size, 0, none⟩ 1 1 [Value.int .u8 ((y % 128 + 128 : Nat) : Int)] rfl rfl ?c1 ?c2 ?c3 ?c4 ?c5 ?c6)
      case c1 =>
        intro j u hj
        match j, hj with
        | 0, hj => simp at hj; subst hj; simp [Addr.add]
      case c2 => intro u hu; simp at hu; subst hu; rfl
      case c3 => rw [hcl.out]; omega
      case c4 => rw [hcl.out]; omega
      case c5 => simp; omega
      case c6 =>
        intro v' w2 hown' hgrow _
        have hlow2 : Below w.heap.size w w2 := (hC.out.low.alloc hbase _).grown hgrow (by simp; omega) (fun k hk => (hgl.out k hk).1)
        have hO2 : OwnB w2 w.heap.size v' (l ++ (pre ++ [(y % 128 + 128).toUInt8])) := by
          refine ⟨?_⟩
          have ec : ((y % 128 + 128 : Nat) : Int) = (y : Int) % 128 + 128 := by omega
          rw [← List.append_assoc, Lib.byteCells_snoc _ (by omega), List.length_append, List.length_append, List.length_singleton]
          first | exact hown' | (rw [ec]; exact hown')
        have hsp2 : uintB x = (pre ++ [(y % 128 + 128).toUInt8]) ++ uintB (y / 128) := by
          rw [hsp.out, show uintB y = _ from Lib.uvarint_big h128]
          simp
        replace hown' := Lib.hid hown'
        replace hgrow := Lib.hid hgrow; replace hlow2 := Lib.hid hlow2; replace hO2 := Lib.hid hO2; replace hsp2 := Lib.hid hsp2
        go_wp2
        go_roundw
        case rel => exact ⟨y / 128, pre ++ [(y % 128 + 128).toUInt8], by go_num, by omega, hsp2.out, ⟨hO2.out, hlow2.out⟩⟩
        case measure => simp [intOf]; omega
    · have hown := hC.out.own.row
      have hown1 := hown.alloc (.cells #[.int .u8 ((y : Nat) : Int)] 5)
      have hgl : ∀ k, u5.ownBlock = some k → w.heap.size ≤ k ∧ k < wr.heap.size := fun k hk => ⟨(hown.lt k hk).1, (hown.lt k hk).2⟩
      have hsm : uintB y = [y.toUInt8] := Lib.uvarint_small (by omega)
      replace hsp := Lib.hid hsp; replace hC := Lib.hid hC; replace hown1 := Lib.hid hown1; replace hgl := Lib.hid hgl; replace hown := Lib.hid hown; replace hsm := Lib.hid hsm; replace hcl := Lib.hid hcl
      go_wp2_with (at_builtin; refine wpList_append_own _ rfl _ _ 67 rfl w.heap.size 5 i0 (.int .u8 0) 1 1 Tryd.underlying67 hi.out hz0.out hz1.out hz2.out rfl (by decide) _ _ _ rfl hown1.out ⟨wr.heap.size, 0, none⟩ 1 1 [Value.int .u8 ((y : Nat) : Int)] rfl rfl ?c1 ?c2 ?c3 ?c4 ?c5 ?c6)
      case c1 =>
        intro j u hj
        match j, hj with
        | 0, hj => simp at hj; subst hj; simp [Addr.add]
      case c2 => intro u hu; simp at hu; subst hu; rfl
      case c3 => rw [hcl.out]; omega
      case c4 => rw [hcl.out]; omega
      case c5 => simp; omega
      case c6 =>
        intro v' w2 hown' hgrow _
        have hlow2 : Below w.heap.size w w2 := (hC.out.low.alloc hbase _).grown hgrow (by simp; omega) (fun k hk => (hgl.out k hk).1)
        have hO2 : OwnB w2 w.heap.size v' (l ++ uintB x) := by
          refine ⟨?_⟩
          rw [hsp.out, hsm.out, ← List.append_assoc, Lib.byteCells_snoc _ (by omega), List.length_append, List.length_append, List.length_singleton]
          exact hown'
        replace hown' := Lib.hid hown'
        replace hgrow := Lib.hid hgrow; replace hlow2 := Lib.hid hlow2; replace hO2 := Lib.hid hO2
        go_wp2
        go_ret
        exact ⟨v', rfl, hO2.out, hlow2.out⟩
theorem zz_shift (n : Int) (h1 : -9223372036854775808 ≤ n) (h2 : n ≤ 9223372036854775807) : bits .xor .u64 (IntKind.u64.wrap (wrap64 (n * 2))) (IntKind.u64.wrap (n / 9223372036854775808)) = ((zz n : Nat) : Int) := by
  have e1 : IntKind.u64.wrap (wrap64 (n * 2)) = (((2 * n) % 18446744073709551616).toNat : Nat) := by
    rw [← IntWalk.i64_left, IntKind.wrap_u64, IntKind.wrap_i64]
    omega
  by_cases h : 0 ≤ n
  · have e2 : IntKind.u64.wrap (n / 9223372036854775808) = ((0 : Nat) : Int) := by
      rw [IntKind.wrap_u64]
      omega
    rw [e1, e2, bits_xor_u64_nat _ _ (by omega) (by decide), Nat.xor_zero]
    unfold zz Lib.zigzag
    rw [if_pos h]
    omega
  · have e2 : IntKind.u64.wrap (n / 9223372036854775808) = ((2 ^ 64 - 1 : Nat) : Int) := by
      rw [IntKind.wrap_u64]
      omega
    rw [e1, e2, bits_xor_u64_nat _ _ (by omega) (by decide), Nat.xor_comm, Lib.xor_ones64 _ (by omega)]
    unfold zz Lib.zigzag
    rw [if_neg h]
    omega
set_option maxRecDepth 100000 in
set_option maxHeartbeats 1600000 in
theorem cint_any (so : Option Addr) (n c : Nat) (l : List UInt8) (x : Int) (w : World) (h1 : -9223372036854775808 ≤ x) (h2 : x ≤ 9223372036854775807) (hb : BytsAt w so n l) (hn : n ≤ 1099511627776) :
    Calls Tryd.prog 92 #[.slice so n c, .int .i64 x] w fun e w' => ∃ v, e = .returned v ∧ OwnB w' w.heap.size v (l ++ uintB (zz x)) ∧ Below w.heap.size w w' := by
  have hk := cuint_any so n c l (zz x) w (zz_lt h1 h2) hb hn
  have hz := zz_shift x h1 h2
  replace hk := Lib.hid hk; replace hb := Lib.hid hb
  go_enter Tryd.func92, Tryd.ntmps92
  go_wp2_with fail
  refine hk.out.mono ?_
  rintro e w1 ⟨v, rfl, hO, hlow⟩
  replace hO := Lib.hid hO; replace hlow := Lib.hid hlow
  go_wp2
  go_ret
  exact ⟨v, rfl, hO.out, hlow.out⟩
end Go.Proofs.YteoihdkaoipocaaDoor

/- code.Text; slices.Clone of bytes. Plain theorems: no condition. -/
namespace Go.Proofs.YteoihdkaoipocaaDoor
open Go.RowKit Go.Maps

theorem byteCells_app2 (a b : List UInt8) : Lib.byteCells (a ++ b) = Lib.byteCells a ++ Lib.byteCells b := by simp [Lib.byteCells]
set_option maxRecDepth 100000 in
set_option maxHeartbeats 1600000 in
theorem ctext_any (so : Option Addr) (n c : Nat) (l : List UInt8) (s : ByteArray) (w : World) (hs : s.size ≤ 1099511627776) (hb : BytsAt w so n l) (hn : n ≤ 1099511627776) :
    Calls Tryd.prog 94 #[.slice so n c, .string s] w fun e w' => ∃ v, e = .returned v ∧ OwnB w' w.heap.size v (l ++ uintB s.size ++ s.data.toList) ∧ Below w.heap.size w w' := by
  obtain ⟨i0, hi, hz0, hz1, hz2⟩ := info_parts info5b
  have hx : s.size < 18446744073709551616 := by omega
  have hk := cuint_any so n c l s.size w hx hb hn
  have hll := hb.len
  have hten := uintB_ten hx
  have mx : maxLen = 9223372036854775807 := by kernel_rfl
  have htl : s.data.toList.length = s.size := toL_len s
  replace hk := Lib.hid hk; replace hb := Lib.hid hb; replace hi := Lib.hid hi; replace hz0 := Lib.hid hz0; replace hz1 := Lib.hid hz1; replace hz2 := Lib.hid hz2; replace hll := Lib.hid hll
  go_enter Tryd.func94, Tryd.ntmps94
  go_wp2_with fail
  refine hk.out.mono ?_
  rintro e w1 ⟨v, rfl, hO, hlow⟩
  have hown := hO.row
  have hbase := hlow.size
  have hln : (l ++ uintB s.size).length = n + (uintB s.size).length := by rw [List.length_append, hll.out]
  have hgl : ∀ k, v.ownBlock = some k → w.heap.size ≤ k ∧ k < w1.heap.size := fun k hk => ⟨(hown.lt k hk).1, (hown.lt k hk).2⟩
  replace hO := Lib.hid hO; replace hlow := Lib.hid hlow; replace hown := Lib.hid hown; replace hgl := Lib.hid hgl; replace hln := Lib.hid hln; replace hten := Lib.hid hten
  go_wp2_with (at_builtin; refine Lib.wpList_append_own_string _ rfl _ _ 67 9 rfl w.heap.size 5 i0 Tryd.underlying67 Tryd.underlying9 hi.out hz0.out hz1.out hz2.out _ _ _ rfl hown.out s rfl ?c3 ?c4 hbase ?c6)
  case c3 => rw [hln.out]; have := hten.out; omega
  case c4 => rw [hln.out]; have := hten.out; omega
  case c6 =>
    intro v' w2 hown' hgrow _
    have hlow2 : Below w.heap.size w w2 := hlow.out.grown hgrow hbase (fun k hk => (hgl.out k hk).1)
    have hO2 : OwnB w2 w.heap.size v' (l ++ uintB s.size ++ s.data.toList) := by
      refine ⟨?_⟩
      rw [List.length_append, htl, byteCells_app2 (l ++ uintB s.size), List.length_append]
      exact hown'
    replace hown' := Lib.hid hown'
    replace hgrow := Lib.hid hgrow; replace hlow2 := Lib.hid hlow2; replace hO2 := Lib.hid hO2
    go_wp2
    go_ret
    exact ⟨v', rfl, hO2.out, hlow2.out⟩
set_option maxRecDepth 100000 in
set_option maxHeartbeats 1600000 in
theorem cloneB_any (so : Option Addr) (n c : Nat) (l : List UInt8) (w : World) (hb : BytsAt w so n l) (hso : so = none → n = 0 ∧ c = 0) (hn : n ≤ 1099511627776) :
    Calls Tryd.prog 91 #[.slice so n c] w fun e w' => ∃ v, e = .returned v ∧ OwnB w' w.heap.size v l ∧ Below w.heap.size w w' := by
  obtain ⟨i0, hi, hz0, hz1, hz2⟩ := info_parts info5b
  have hll := hb.len
  have mx : maxLen = 9223372036854775807 := by kernel_rfl
  have q67 : ∀ (w : World) (a : Option Addr) (n c n' c' : Nat), (binOp .eql 67 (.slice a n c) (.slice none n' c')).run Tryd.prog w = .ok (.bool a.isNone) w := fun w a n c n' c' => Lib.run_eql_slice_nil w _ _ a n c n' c' Tryd.underlying67
  cases so with
  | none =>
    obtain ⟨rfl, rfl⟩ := hso rfl
    have hl : l = [] := List.eq_nil_of_length_eq_zero hll
    subst hl
    replace hb := Lib.hid hb; replace hi := Lib.hid hi; replace hz0 := Lib.hid hz0; replace hz1 := Lib.hid hz1; replace hz2 := Lib.hid hz2; replace hll := Lib.hid hll
    go_enter Tryd.func91, Tryd.ntmps91
    go_wp2
    go_ret
    exact ⟨_, rfl, ⟨rfl, .inl ⟨rfl, rfl⟩⟩, Below.refl _ _⟩
  | some ad =>
    have hal : Below w.heap.size w (w.alloc (.cells #[] 5)) := (Below.refl _ _).alloc (Nat.le_refl _) _
    have hown : (w.alloc (.cells #[] 5)).ownsRow w.heap.size 5 1 (.slice (some ⟨w.heap.size, 0, none⟩) 0 0) 0 [] := ⟨rfl, .inr ⟨w.heap.size, 0, #[], rfl, Nat.le_refl _, blk_new _ _, Nat.le_refl _, by omega, rfl, rfl⟩⟩
    have hcl : ∀ j u, (Lib.byteCells l)[j]? = some u → (w.alloc (.cells #[] 5)).cell? (ad.add j) = some u := fun j u hu => by
      by_cases h0 : 0 < (Lib.byteCells l).length
      · obtain ⟨a2, e, h2⟩ := byts_cells (hb.low hal) h0
        rw [Option.some.inj e]
        exact h2 j u hu
      · rw [List.getElem?_eq_none (by omega)] at hu
        cases hu
    have hln : (Lib.byteCells l).length = n * 1 := by rw [Lib.byteCells_length, hll, Nat.mul_one]
    have hone := Lib.byteCells_one l
    replace hb := Lib.hid hb; replace hi := Lib.hid hi; replace hz0 := Lib.hid hz0; replace hz1 := Lib.hid hz1; replace hz2 := Lib.hid hz2; replace hll := Lib.hid hll; replace hal := Lib.hid hal; replace hown := Lib.hid hown; replace hcl := Lib.hid hcl; replace hln := Lib.hid hln; replace hone := Lib.hid hone
    go_enter Tryd.func91, Tryd.ntmps91
    go_wp2_with (at_builtin; refine wpList_append_own _ rfl _ _ 67 rfl w.heap.size 5 i0 (.int .u8 0) 1 1 Tryd.underlying67 hi.out hz0.out hz1.out hz2.out rfl (by decide) _ _ _ rfl hown.out ad n c (Lib.byteCells l) rfl hln.out hcl.out hone.out ?c3 ?c4 ?c5 ?c6)
    case c3 => omega
    case c4 => omega
    case c5 => simp
    case c6 =>
      intro v' w2 hown' hgrow _
      have hlow2 : Below w.heap.size w w2 := hal.out.grown hgrow (by simp) (fun k hk => (hown.out.lt k hk).1)
      have hO2 : OwnB w2 w.heap.size v' l := by
        refine ⟨?_⟩
        rw [hll.out]
        exact hown'
      replace hown' := Lib.hid hown'
      replace hgrow := Lib.hid hgrow; replace hlow2 := Lib.hid hlow2; replace hO2 := Lib.hid hO2
      go_wp2
      go_ret
      exact ⟨v', rfl, hO2.out, hlow2.out⟩
end Go.Proofs.YteoihdkaoipocaaDoor

/- code.Reader: its errors, its numbers. Plain theorems: no condition. -/
namespace Go.Proofs.YteoihdkaoipocaaDoor
open Go.RowKit Go.Maps

/-- nothing old but one block turns -/
structure Kept (rb : Nat) (w w' : World) : Prop where
  os : w'.os = w.os
  tape : w'.tape = w.tape
  output : w'.output = w.output
  size : w.heap.size ≤ w'.heap.size
  block : ∀ k, k < w.heap.size → k ≠ rb → w'.heap[k]? = w.heap[k]?
theorem Kept.refl (rb : Nat) (w : World) : Kept rb w w := ⟨rfl, rfl, rfl, Nat.le_refl _, fun _ _ _ => rfl⟩
theorem Kept.trans {rb : Nat} {a b c : World} (h : Kept rb a b) (k : Kept rb b c) : Kept rb a c :=
  ⟨k.os.trans h.os, k.tape.trans h.tape, k.output.trans h.output, Nat.le_trans h.size k.size, fun i hi hn => (k.block i (Nat.lt_of_lt_of_le hi h.size) hn).trans (h.block i hi hn)⟩
theorem Kept.set (rb o : Nat) (w : World) (v : Value) : Kept rb w (w.setCell ⟨rb, o, none⟩ v) :=
  ⟨rfl, rfl, rfl, by simp [World.setCell], fun k _ hn => Below.heap_setCell _ _ _ _ hn⟩
theorem Kept.of_below {rb : Nat} {w w' : World} (h : Below w.heap.size w w') : Kept rb w w' := ⟨h.os, h.tape, h.output, h.size, fun k hk _ => h.block k hk⟩
theorem Kept.below {rb B : Nat} {w w' : World} (h : Kept rb w w') (hB : B ≤ rb) (hr : rb < w.heap.size) : Below B w w' :=
  ⟨h.os, h.tape, h.output, h.size, fun k hk => h.block k (by omega) (by omega)⟩
theorem Kept.blk {rb k : Nat} {w w' : World} {o : Obj} (h : Kept rb w w') (hk : w.heap[k]? = some o) (hn : k ≠ rb) : w'.heap[k]? = some o := (h.block k (blk_lt hk) hn).trans hk
/-- a reader in memory: the bytes left, the error -/
structure Rdr (w : World) (rb B : Nat) (l : List UInt8) (e : Int) : Prop where
  ex : ∃ so n c, w.heap[rb]? = some (.cells #[.slice so n c, .int .i64 e] 129 (0, 0)) ∧ BytsAt w so n l ∧ n ≤ c ∧ (so = none → n = 0 ∧ c = 0) ∧ (l ≠ [] → ∀ ad, so = some ad → ad.block < B)
theorem Rdr.low {w w' : World} {rb B : Nat} {l : List UInt8} {e : Int} (h : Rdr w rb B l e) (hb : Below w.heap.size w w') : Rdr w' rb B l e := by
  obtain ⟨so, n, c, h1, h2, h3⟩ := h.ex
  exact ⟨so, n, c, blk_below hb h1 (blk_lt h1), h2.low hb, h3⟩
theorem Rdr.lt {w : World} {rb B : Nat} {l : List UInt8} {e : Int} (h : Rdr w rb B l e) : rb < w.heap.size := by
  obtain ⟨so, n, c, h1, _⟩ := h.ex
  exact blk_lt h1
theorem byts_ne {w : World} {rb : Nat} {so so' : Option Addr} {n n' c : Nat} {l : List UInt8} {e : Int} {T : TypeId} {fr : Nat × Nat} (hr : w.heap[rb]? = some (.cells #[.slice so' n' c, .int .i64 e] T fr)) (h : BytsAt w so n l) : ∀ i x, l[i]? = some x → ∃ b off, so = some ⟨b, off, none⟩ ∧ b < w.heap.size ∧ b ≠ rb ∧ w.cell? ⟨b, off + i, none⟩ = some (.int .u8 x.toNat) := by
  intro i x hx
  obtain ⟨b, off, e1, hlt, hc⟩ := h.cell i x hx
  refine ⟨b, off, e1, hlt, fun hb => ?_, hc⟩
  subst hb
  rw [blk_cell hr] at hc
  rcases Nat.lt_or_ge (off + i) 2 with hj | hj
  · have : off + i = 0 ∨ off + i = 1 := by omega
    rcases this with e | e <;> rw [e] at hc <;> simp at hc
  · rw [Array.getElem?_eq_none (by simpa using hj)] at hc
    cases hc
theorem byts_kept {w w' : World} {rb : Nat} {so so' : Option Addr} {n n' c : Nat} {l : List UInt8} {e : Int} {T : TypeId} {fr : Nat × Nat} (hr : w.heap[rb]? = some (.cells #[.slice so' n' c, .int .i64 e] T fr)) (h : BytsAt w so n l) (hk : Kept rb w w') : BytsAt w' so n l :=
  ⟨h.len, h.max, fun i x hx => by
    obtain ⟨b, off, e1, hlt, hne, hc⟩ := byts_ne hr h i x hx
    refine ⟨b, off, e1, Nat.lt_of_lt_of_le hlt hk.size, ?_⟩
    rw [← hc]
    simp only [World.cell?, hk.block b hlt hne]⟩
theorem byts_drop {w : World} {b off n : Nat} {l : List UInt8} (h : BytsAt w (some ⟨b, off, none⟩) n l) (k : Nat) (hk : k ≤ n) : BytsAt w (some ⟨b, off + k, none⟩) (n - k) (l.drop k) :=
  ⟨by rw [List.length_drop, h.len], by have := h.max; omega, fun i x hx => by
    rw [List.getElem?_drop] at hx
    obtain ⟨b', off', e, hlt, hc⟩ := h.cell (k + i) x hx
    simp only [Option.some.injEq, Addr.mk.injEq, and_true] at e
    obtain ⟨rfl, rfl⟩ := e
    exact ⟨b, off + k, rfl, hlt, by rw [Nat.add_assoc]; exact hc⟩⟩
theorem byts_lt {w : World} {so : Option Addr} {n : Nat} {l : List UInt8} (h : BytsAt w so n l) : l ≠ [] → ∀ ad, so = some ad → ad.block < w.heap.size := by
  intro hl ad e
  cases l with
  | nil => exact absurd rfl hl
  | cons x l =>
    obtain ⟨b, off, e2, hlt, _⟩ := h.cell 0 x rfl
    rw [e] at e2
    rw [Option.some.inj e2]
    exact hlt
theorem rdr_new (w : World) {so : Option Addr} {n c : Nat} {l : List UInt8} (h : BytsAt w so n l) (hc : n ≤ c) (hso : so = none → n = 0 ∧ c = 0) : Rdr (w.alloc (.cells #[.slice so n c, .int .i64 0] 129 (0, 0))) w.heap.size w.heap.size l 0 :=
  ⟨so, n, c, blk_new _ _, h.low ((Below.refl _ _).alloc (Nat.le_refl _) _), hc, hso, byts_lt h⟩
theorem Rdr.at {w w' : World} {rb B B' : Nat} {l : List UInt8} {e : Int} (h : Rdr w rb B l e) (hb : Below B' w w') (hr : rb < B') (hB : B ≤ B') : Rdr w' rb B l e := by
  obtain ⟨so, n, c, h1, h2, h3, h4, h5⟩ := h.ex
  refine ⟨so, n, c, blk_below hb h1 hr, ⟨h2.len, h2.max, fun i x hx => ?_⟩, h3, h4, h5⟩
  obtain ⟨b, off, e1, hlt, hc⟩ := h2.cell i x hx
  have hb5 := h5 (fun c => by rw [c] at hx; simp at hx) _ e1
  exact ⟨b, off, e1, Nat.lt_of_lt_of_le hlt hb.size, (below_cell hb (Nat.lt_of_lt_of_le hb5 hB)).trans hc⟩
set_option maxRecDepth 100000 in
theorem cread_any {w : World} {so : Option Addr} {n c : Nat} {l : List UInt8} (h : BytsAt w so n l) (hc : n ≤ c) (hso : so = none → n = 0 ∧ c = 0) :
    Calls Tryd.prog 49 #[.slice so n c] w fun e w' => e = .returned (.pointer (some ⟨w.heap.size, 0, none⟩)) ∧ Rdr w' w.heap.size w.heap.size l 0 ∧ Below w.heap.size w w' := by
  have hR := rdr_new w h hc hso
  replace hR := Lib.hid hR; replace h := Lib.hid h; replace hso := Lib.hid hso
  go_enter Tryd.func49, Tryd.ntmps49
  go_wp2
  go_ret
  exact ⟨rfl, hR.out, (Below.refl _ _).alloc (Nat.le_refl _) _⟩
set_option maxRecDepth 100000 in
theorem rerr_any {w : World} {rb B : Nat} {l : List UInt8} {e : Int} (h : Rdr w rb B l e) : Calls Tryd.prog 55 #[.pointer (some ⟨rb, 0, none⟩)] w fun en w' => en = .returned (.int .i64 e) ∧ w' = w := by
  obtain ⟨so, n, c, h1, h2, h3, h4, h5⟩ := h.ex
  have y1 : w.cell? ⟨rb, 1, none⟩ = some (.int .i64 e) := blk_cell h1 1
  replace h := Lib.hid h; replace h1 := Lib.hid h1; replace h2 := Lib.hid h2; replace h4 := Lib.hid h4; replace h5 := Lib.hid h5
  go_enter Tryd.func55, Tryd.ntmps55
  go_wp2
  go_ret
  exact ⟨rfl, rfl⟩
set_option maxRecDepth 100000 in
theorem rleft_any {w : World} {rb B : Nat} {l : List UInt8} {e : Int} (h : Rdr w rb B l e) : Calls Tryd.prog 53 #[.pointer (some ⟨rb, 0, none⟩)] w fun en w' => en = .returned (.int .i64 l.length) ∧ w' = w := by
  obtain ⟨so, n, c, h1, h2, h3, h4, h5⟩ := h.ex
  have y0 : w.cell? ⟨rb, 0, none⟩ = some (.slice so n c) := blk_cell h1 0
  have hl := h2.len
  replace h := Lib.hid h; replace h1 := Lib.hid h1; replace h2 := Lib.hid h2; replace h4 := Lib.hid h4; replace h5 := Lib.hid h5; replace hl := Lib.hid hl
  go_enter Tryd.func53, Tryd.ntmps53
  go_wp2
  go_ret
  exact ⟨by rw [hl.out]; rfl, rfl⟩
/-- what a failure leaves -/
def failL (l : List UInt8) (e x : Int) : List UInt8 := if e = 0 ∧ x ≠ 0 then [] else l
def failE (e x : Int) : Int := if e = 0 ∧ x ≠ 0 then x else e
set_option maxRecDepth 100000 in
theorem rfail_any {w : World} {rb B : Nat} {l : List UInt8} {e : Int} (h : Rdr w rb B l e) (x : Int) : Calls Tryd.prog 96 #[.pointer (some ⟨rb, 0, none⟩), .int .i64 x] w fun en w' => en = .returned (.tuple #[]) ∧ Rdr w' rb B (failL l e x) (failE e x) ∧ Kept rb w w' := by
  obtain ⟨so, n, c, h1, h2, h3, h4, h5⟩ := h.ex
  have y1 : w.cell? ⟨rb, 1, none⟩ = some (.int .i64 e) := blk_cell h1 1
  by_cases q : e = 0
  · by_cases q2 : x = 0
    · have d1 : (e == (0 : Int)) = true := by rw [q]; rfl
      have d2 : (x != (0 : Int)) = false := by rw [q2]; rfl
      have e1 : failL l e x = l := if_neg (fun c => c.2 q2)
      have e2 : failE e x = e := if_neg (fun c => c.2 q2)
      replace h := Lib.hid h; replace h1 := Lib.hid h1; replace h2 := Lib.hid h2; replace h4 := Lib.hid h4; replace h5 := Lib.hid h5; replace q := Lib.hid q; replace q2 := Lib.hid q2; replace e1 := Lib.hid e1; replace e2 := Lib.hid e2
      go_enter Tryd.func96, Tryd.ntmps96
      go_wp2
      go_end0
      exact ⟨rfl, by rw [e1.out, e2.out]; exact h.out, Kept.refl _ _⟩
    · have d1 : (e == (0 : Int)) = true := by rw [q]; rfl
      have d2 : (x != (0 : Int)) = true := by rw [bne_iff_ne]; exact q2
      have e1 : failL l e x = [] := if_pos ⟨q, q2⟩
      have e2 : failE e x = x := if_pos ⟨q, q2⟩
      have f1 := blk_free h1 1
      have f0 := blk_free (blk_set h1 1 (.int .i64 x)) 0
      have y0 : (w.setCell ⟨rb, 1, none⟩ (.int .i64 x)).cell? ⟨rb, 0, none⟩ = some (.slice so n c) := by rw [blk_cell (blk_set h1 1 _)]; simp
      have h6 := blk_set (blk_set h1 1 (.int .i64 x)) 0 (.slice none 0 0)
      have hk : Kept rb w ((w.setCell ⟨rb, 1, none⟩ (.int .i64 x)).setCell ⟨rb, 0, none⟩ (.slice none 0 0)) := (Kept.set rb 1 w _).trans (Kept.set rb 0 _ _)
      have hR : Rdr ((w.setCell ⟨rb, 1, none⟩ (.int .i64 x)).setCell ⟨rb, 0, none⟩ (.slice none 0 0)) rb B [] x := ⟨none, 0, 0, by simpa using h6, byts_nil _, Nat.le_refl _, fun _ => ⟨rfl, rfl⟩, fun h => absurd rfl h⟩
      replace h := Lib.hid h; replace h1 := Lib.hid h1; replace h2 := Lib.hid h2; replace h4 := Lib.hid h4; replace h5 := Lib.hid h5; replace q := Lib.hid q; replace q2 := Lib.hid q2; replace e1 := Lib.hid e1; replace e2 := Lib.hid e2; replace h6 := Lib.hid h6; replace hk := Lib.hid hk; replace hR := Lib.hid hR
      go_enter Tryd.func96, Tryd.ntmps96
      go_wp2
      go_end0
      exact ⟨rfl, by rw [e1.out, e2.out]; exact hR.out, hk.out⟩
  · have d1 : (e == (0 : Int)) = false := by rw [beq_eq_false_iff_ne]; exact q
    have e1 : failL l e x = l := if_neg (fun c => q c.1)
    have e2 : failE e x = e := if_neg (fun c => q c.1)
    replace h := Lib.hid h; replace h1 := Lib.hid h1; replace h2 := Lib.hid h2; replace h4 := Lib.hid h4; replace h5 := Lib.hid h5; replace q := Lib.hid q; replace e1 := Lib.hid e1; replace e2 := Lib.hid e2
    go_enter Tryd.func96, Tryd.ntmps96
    go_wp2
    go_end0
    exact ⟨rfl, by rw [e1.out, e2.out]; exact h.out, Kept.refl _ _⟩
end Go.Proofs.YteoihdkaoipocaaDoor

/- code.Reader: Uint, Int, count, Text, End. Plain theorems: no condition. -/
namespace Go.Proofs.YteoihdkaoipocaaDoor
open Go.RowKit Go.Maps

/-- a number off a reader: the value, what is left, the error -/
def uintR (l : List UInt8) (e : Int) : Nat × List UInt8 × Int := if e = 0 then decU 0 0 l else (0, l, e)
theorem or_step {acc m k : Nat} (hk : k ≤ 9) (hacc : acc < 128 ^ k) (hm : m < 256) (h9 : k = 9 → m ≤ 1) :
    bits .or .u64 (acc : Int) (IntKind.u64.wrap (IntKind.u64.wrap (bits .and .u8 (m : Int) 127) * 2 ^ (7 * k))) = ((acc + (m % 128) * 128 ^ k : Nat) : Int) := by
  have hp : (128 : Nat) ^ k = 2 ^ (7 * k) := by rw [show (128 : Nat) = 2 ^ 7 by decide, ← Nat.pow_mul]
  have hb : (m % 128) * 128 ^ k < 18446744073709551616 := by
    by_cases c : k = 9
    · have h1 := h9 c
      subst c
      rw [p9]
      omega
    · have h1 : 128 ^ k ≤ 128 ^ 8 := Nat.pow_le_pow_right (by omega) (by omega)
      have h2 : (m % 128) * 128 ^ k ≤ 127 * 128 ^ 8 := Nat.mul_le_mul (by omega) h1
      exact Nat.lt_of_le_of_lt h2 (by decide)
  have ha : acc < 18446744073709551616 := by
    have h1 : 128 ^ k ≤ 128 ^ 9 := Nat.pow_le_pow_right (by omega) hk
    rw [p9] at h1
    omega
  rw [u8_and127 _ (by omega) (by omega)]
  have e0 : ((m : Int) % 128) = ((m % 128 : Nat) : Int) := by omega
  have e1 : IntKind.u64.wrap ((m % 128 : Nat) : Int) = ((m % 128 : Nat) : Int) := wraps_u64 _ (by omega) (by omega)
  have e2 : ((m % 128 : Nat) : Int) * 2 ^ (7 * k) = (((m % 128) * 128 ^ k : Nat) : Int) := by rw [hp]; simp
  have h64 : (2 : Int) ^ 64 = 18446744073709551616 := by decide
  have l1 : (((m % 128) * 128 ^ k : Nat) : Int) < 2 ^ 64 := by omega
  have l2 : (acc : Int) < 2 ^ 64 := by omega
  have l3 : (acc : Int) < 2 ^ (7 * k) := by
    rw [hp] at hacc
    exact_mod_cast hacc
  have l4 : (((m % 128) * 128 ^ k : Nat) : Int) % 2 ^ (7 * k) = 0 := by
    rw [← e2]
    exact Int.mul_emod_left _ _
  have e3 : IntKind.u64.wrap (((m % 128) * 128 ^ k : Nat) : Int) = (((m % 128) * 128 ^ k : Nat) : Int) := wraps_u64 _ (by omega) l1
  rw [e0, e1, e2, e3, bits_join_low .u64 64 (by decide) wraps_u64 (7 * k) _ _ (by omega) l3 l2 (by omega) l4 l1]
  rw [Int.natCast_add]
structure RuB (W : World) (q : Bool) (bv : Value) (wx : World) : Prop where
  b : bv = .bool q
  w : W = wx
set_option maxRecDepth 100000 in
set_option maxHeartbeats 3200000 in
theorem ruint_any {w : World} {rb B : Nat} {l : List UInt8} {e : Int} (h : Rdr w rb B l e) : Calls Tryd.prog 127 #[.pointer (some ⟨rb, 0, none⟩)] w fun en w' => en = .returned (.int .u64 (uintR l e).1) ∧ Rdr w' rb B (uintR l e).2.1 (uintR l e).2.2 ∧ Kept rb w w' := by
  obtain ⟨so, n, c, h1, h2, h3, h4, h5⟩ := h.ex
  have y1 : w.cell? ⟨rb, 1, none⟩ = some (.int .i64 e) := blk_cell h1 1
  have y0 : w.cell? ⟨rb, 0, none⟩ = some (.slice so n c) := blk_cell h1 0
  have f0 := blk_free h1 0
  by_cases q : e = 0
  rotate_left
  · have d1 : (e != (0 : Int)) = true := by rw [bne_iff_ne]; exact q
    have e1 : uintR l e = (0, l, e) := if_neg q
    replace h := Lib.hid h; replace h1 := Lib.hid h1; replace h2 := Lib.hid h2; replace h4 := Lib.hid h4; replace h5 := Lib.hid h5; replace q := Lib.hid q; replace e1 := Lib.hid e1
    go_enter Tryd.func127, Tryd.ntmps127
    go_wp2
    go_ret
    exact ⟨by rw [e1.out]; rfl, by rw [e1.out]; exact h.out, Kept.refl _ _⟩
  subst q
  have e1 : uintR l 0 = decU 0 0 l := if_pos rfl
  have hl := h2.len
  have hmx := h2.max
  replace h := Lib.hid h; replace h1 := Lib.hid h1; replace h2 := Lib.hid h2; replace h4 := Lib.hid h4; replace h5 := Lib.hid h5; replace e1 := Lib.hid e1; replace hl := Lib.hid hl
  go_enter Tryd.func127, Tryd.ntmps127
  go_wp2
  go_loopw [3, 4, 5] (fun nv iv _ wr => ∃ k acc : Nat, nv = .int .u64 acc ∧ iv = .int .i64 k ∧ k ≤ n ∧ k ≤ 9 ∧ Hid (acc < 128 ^ k) ∧ Hid (decU 0 0 l = decU k acc (l.drop k)) ∧ Hid (wr = w)) (fun _ iv _ _ => n - (intOf iv).toNat)
  case atStart => exact ⟨0, 0, rfl, rfl, Nat.zero_le _, by omega, (show 0 < 128 ^ 0 by decide), rfl, rfl⟩
  case round =>
    obtain ⟨k, acc, rfl, rfl, hk, hk9, hacc, hdec, hw⟩ := hrel
    have hw2 := hw.out
    subst hw2
    by_cases hc : k = n
    · have d3 : ((k : Int) == (n : Int)) = true := by rw [hc]; simp
      have hdr : l.drop k = [] := List.drop_of_length_le (by rw [hl.out, hc]; exact Nat.le_refl _)
      have e2 : uintR l 0 = (0, [], 10) := by rw [e1.out, hdec.out, hdr]; rfl
      have hF := rfail_any h.out 10
      replace hdr := Lib.hid hdr; replace e2 := Lib.hid e2; replace hF := Lib.hid hF; replace hc := Lib.hid hc
      go_wp2_with fail
      refine hF.out.mono ?_
      rintro e w1 ⟨rfl, hR, hK⟩
      replace hR := Lib.hid hR; replace hK := Lib.hid hK
      go_wp2
      go_ret
      exact ⟨by rw [e2.out]; rfl, by rw [e2.out]; exact hR.out, hK.out⟩
    · have d3 : ((k : Int) == (n : Int)) = false := by rw [beq_eq_false_iff_ne]; omega
      have hkn : (k : Int) < n := by omega
      have hk0 : (0 : Int) ≤ (k : Int) := by omega
      obtain ⟨x, hx⟩ : ∃ x, l[k]? = some x := ⟨_, List.getElem?_eq_getElem (by rw [hl.out]; omega)⟩
      obtain ⟨b, off, rfl, hbl, hcell⟩ := h2.out.cell k x hx
      obtain ⟨m, hm⟩ : ∃ m, m = x.toNat := ⟨_, rfl⟩
      have hm256 : m < 256 := by rw [hm]; exact x.toNat_lt
      rw [← hm] at hcell
      have hdrop : l.drop k = x :: l.drop (k + 1) := by
        rw [List.drop_eq_getElem_cons (by rw [hl.out]; omega)]
        rw [List.getElem?_eq_getElem (by rw [hl.out]; omega)] at hx
        rw [Option.some.inj hx]
      have hx' : l ≠ [] := fun c => by rw [c] at hx; simp at hx
      replace hx := Lib.hid hx; replace hm := Lib.hid hm; replace hdrop := Lib.hid hdrop; replace hx' := Lib.hid hx'
      go_upto_region 10 with fail
      obtain ⟨q, hq⟩ : ∃ q, q = decide ((k = 9 ∧ 1 < m) ∨ (0 < k ∧ m = 0)) := ⟨_, rfl⟩
      replace hq := Lib.hid hq
      go_cut [46] from 33 to 47 (fun bv wx => RuB wr q bv wx)
      case first =>
        by_cases k9 : k = 9
        · have a1 : ((k : Int) == (9 : Int)) = true := by rw [k9]; rfl
          by_cases m1 : 1 < m
          · have a2 : decide ((1 : Int) < (m : Int)) = true := decide_eq_true (by omega)
            have a2' : decide (1 < m) = true := decide_eq_true m1
            have hr : decide ((k = 9 ∧ 1 < m) ∨ (0 < k ∧ m = 0)) = true := decide_eq_true (.inl ⟨k9, m1⟩)
            replace k9 := Lib.hid k9; replace hr := Lib.hid hr
            go_wp2
            go_meet
            exact ⟨by rw [hq.out, hr.out], rfl⟩
          · have a2 : decide ((1 : Int) < (m : Int)) = false := decide_eq_false (by omega)
            have a2' : decide (1 < m) = false := decide_eq_false m1
            have a3 : decide ((0 : Int) < (k : Int)) = true := decide_eq_true (by omega)
            have a3' : decide (0 < k) = true := decide_eq_true (by omega)
            by_cases m0 : m = 0
            · have a4 : ((m : Int) == (0 : Int)) = true := by rw [m0]; rfl
              have hr : decide ((k = 9 ∧ 1 < m) ∨ (0 < k ∧ m = 0)) = true := decide_eq_true (by omega)
              replace m0 := Lib.hid m0; replace k9 := Lib.hid k9; replace hr := Lib.hid hr
              go_wp2
              go_meet
              exact ⟨by rw [hq.out, hr.out], rfl⟩
            · have a4 : ((m : Int) == (0 : Int)) = false := by rw [beq_eq_false_iff_ne]; omega
              have hr : decide ((k = 9 ∧ 1 < m) ∨ (0 < k ∧ m = 0)) = false := decide_eq_false (by omega)
              replace m0 := Lib.hid m0; replace k9 := Lib.hid k9; replace hr := Lib.hid hr
              go_wp2
              go_meet
              exact ⟨by rw [hq.out, hr.out], rfl⟩
        · have a1 : ((k : Int) == (9 : Int)) = false := by rw [beq_eq_false_iff_ne]; omega
          by_cases k0 : 0 < k
          · have a3 : decide ((0 : Int) < (k : Int)) = true := decide_eq_true (by omega)
            have a3' : decide (0 < k) = true := decide_eq_true k0
            by_cases m0 : m = 0
            · have a4 : ((m : Int) == (0 : Int)) = true := by rw [m0]; rfl
              have hr : decide ((k = 9 ∧ 1 < m) ∨ (0 < k ∧ m = 0)) = true := decide_eq_true (by omega)
              replace m0 := Lib.hid m0; replace k9 := Lib.hid k9; replace hr := Lib.hid hr
              go_wp2
              go_meet
              exact ⟨by rw [hq.out, hr.out], rfl⟩
            · have a4 : ((m : Int) == (0 : Int)) = false := by rw [beq_eq_false_iff_ne]; omega
              have hr : decide ((k = 9 ∧ 1 < m) ∨ (0 < k ∧ m = 0)) = false := decide_eq_false (by omega)
              replace m0 := Lib.hid m0; replace k9 := Lib.hid k9; replace hr := Lib.hid hr
              go_wp2
              go_meet
              exact ⟨by rw [hq.out, hr.out], rfl⟩
          · have a3 : decide ((0 : Int) < (k : Int)) = false := decide_eq_false (by omega)
            have a3' : decide (0 < k) = false := decide_eq_false k0
            have hr : decide ((k = 9 ∧ 1 < m) ∨ (0 < k ∧ m = 0)) = false := decide_eq_false (by omega)
            replace k9 := Lib.hid k9; replace hr := Lib.hid hr; replace k0 := Lib.hid k0
            go_wp2
            go_meet
            exact ⟨by rw [hq.out, hr.out], rfl⟩
      case rest =>
        obtain ⟨rfl, hw3⟩ := hcut
        subst hw3
        by_cases hbad : (k = 9 ∧ 1 < m) ∨ (0 < k ∧ m = 0)
        · rw [hq.out, decide_eq_true hbad]
          have e2 : uintR l 0 = (0, [], 11) := by
            rw [e1.out, hdec.out, hdrop.out, decU, if_pos (by rw [← hm.out]; exact hbad)]
          have hF := rfail_any h.out 11
          clear hq
          replace e2 := Lib.hid e2; replace hF := Lib.hid hF; replace hbad := Lib.hid hbad
          go_wp2_with fail
          refine hF.out.mono ?_
          rintro e w1 ⟨rfl, hR, hK⟩
          replace hR := Lib.hid hR; replace hK := Lib.hid hK
          go_wp2
          go_ret
          exact ⟨by rw [e2.out]; rfl, by rw [e2.out]; exact hR.out, hK.out⟩
        · rw [hq.out, decide_eq_false hbad]
          clear hq
          replace hbad := Lib.hid hbad
          have hst : ¬((k = 9 ∧ 1 < m) ∨ (0 < k ∧ m = 0)) := hbad.out
          have hor := or_step hk9 hacc.out hm256 (fun c => by omega)
          have hd2 : decU 0 0 l = if m < 128 then (acc + m * 128 ^ k, l.drop (k + 1), 0) else decU (k + 1) (acc + (m - 128) * 128 ^ k) (l.drop (k + 1)) := by
            rw [hdec.out, hdrop.out, decU, if_neg (by rw [← hm.out]; exact hst), ← hm.out]
          clear hst
          obtain ⟨A, hA⟩ : ∃ A, A = acc + (m % 128) * 128 ^ k := ⟨_, rfl⟩
          rw [← hA] at hor
          replace hd2 := Lib.hid hd2; replace hA := Lib.hid hA
          go_upto_region 14 with fail
          clear hor
          by_cases h128 : m < 128
          · have d5 : decide ((m : Int) < 128) = true := decide_eq_true (by omega)
            have d5' : decide (m < 128) = true := decide_eq_true h128
            have e2 : uintR l 0 = (A, l.drop (k + 1), 0) := by rw [e1.out, hd2.out, if_pos h128, hA.out, Nat.mod_eq_of_lt h128]
            have hwk : IntKind.i64.wrap ((k : Int) + 1) = (k : Int) + 1 := IntWalk.i64_in _ (by omega)
            by_cases hcc : c = k + 1
            · obtain rfl : n = k + 1 := by omega
              subst hcc
              have hR : Rdr (wr.setCell ⟨rb, 0, none⟩ (.slice (some ⟨b, off, none⟩) 0 0)) rb B (l.drop (k + 1)) 0 := by
                have hz : l.drop (k + 1) = [] := List.drop_of_length_le (by rw [hl.out]; exact Nat.le_refl _)
                rw [hz]
                exact ⟨some ⟨b, off, none⟩, 0, 0, by simpa using blk_set h1.out 0 (.slice (some ⟨b, off, none⟩) 0 0), ⟨rfl, by omega, fun i x hx => by simp at hx⟩, Nat.le_refl _, fun h => (by cases h), fun h => absurd rfl h⟩
              have hK := Kept.set rb 0 wr (.slice (some ⟨b, off, none⟩) 0 0)
              replace e2 := Lib.hid e2; replace hR := Lib.hid hR; replace hK := Lib.hid hK; replace h128 := Lib.hid h128
              go_wp2
              go_ret
              exact ⟨by rw [e2.out]; rfl, by rw [e2.out]; exact hR.out, hK.out⟩
            · have hR : Rdr (wr.setCell ⟨rb, 0, none⟩ (.slice (some ⟨b, off + (k + 1), none⟩) (n - (k + 1)) (c - (k + 1)))) rb B (l.drop (k + 1)) 0 := by
                have hK := Kept.set rb 0 wr (.slice (some ⟨b, off + (k + 1), none⟩) (n - (k + 1)) (c - (k + 1)))
                exact ⟨_, _, _, by simpa using blk_set h1.out 0 (.slice (some ⟨b, off + (k + 1), none⟩) (n - (k + 1)) (c - (k + 1))), byts_kept h1.out (byts_drop h2.out (k + 1) (by omega)) hK, by omega, fun h => (by cases h), fun _ ad e => by have h6 := h5.out hx'.out _ rfl; rw [← Option.some.inj e]; exact h6⟩
              have hK := Kept.set rb 0 wr (.slice (some ⟨b, off + (k + 1), none⟩) (n - (k + 1)) (c - (k + 1)))
              replace e2 := Lib.hid e2; replace hR := Lib.hid hR; replace hK := Lib.hid hK; replace h128 := Lib.hid h128
              go_wp2
              go_ret
              exact ⟨by rw [e2.out]; rfl, by rw [e2.out]; exact hR.out, hK.out⟩
          · have d5 : decide ((m : Int) < 128) = false := decide_eq_false (by omega)
            have d5' : decide (m < 128) = false := decide_eq_false h128
            have hk8 : k ≤ 8 := by
              have := hbad.out
              omega
            have hmm : m % 128 = m - 128 := by omega
            have hd3 : decU 0 0 l = decU (k + 1) A (l.drop (k + 1)) := by rw [hd2.out, if_neg h128, hA.out, hmm]
            have hA2 : A < 128 ^ (k + 1) := by
              rw [hA.out, Nat.pow_succ]
              have h1 := hacc.out
              have h2 : (m % 128) * 128 ^ k ≤ 127 * 128 ^ k := Nat.mul_le_mul (by omega) (Nat.le_refl _)
              omega
            replace hd3 := Lib.hid hd3; replace hA2 := Lib.hid hA2; replace hmm := Lib.hid hmm; replace h128 := Lib.hid h128
            go_wp2
            go_roundw
            case rel => exact ⟨k + 1, A, rfl, by go_num, by omega, by omega, hA2.out, hd3.out, by first | rfl | exact trivial⟩
            case measure => simp [intOf]; omega
end Go.Proofs.YteoihdkaoipocaaDoor

/- code.Reader: Int, count, Text, End. Plain theorems: no condition. -/
namespace Go.Proofs.YteoihdkaoipocaaDoor
open Go.RowKit Go.Maps

theorem decU_err : ∀ (l : List UInt8) (i acc : Nat), (decU i acc l).2.2 ≠ 0 → decU i acc l = (0, [], (decU i acc l).2.2) ∧ ((decU i acc l).2.2 = 10 ∨ (decU i acc l).2.2 = 11)
  | [], i, acc, _ => ⟨rfl, .inl rfl⟩
  | c :: l, i, acc, h => by
    rw [decU] at h ⊢
    split
    · exact ⟨rfl, .inr rfl⟩
    · next g =>
      rw [if_neg g] at h
      split
      · next q => rw [if_pos q] at h; exact absurd rfl h
      · next q =>
        rw [if_neg q] at h
        exact decU_err l (i + 1) _ h
theorem decU_lt (l : List UInt8) : (decU 0 0 l).1 < 18446744073709551616 := by
  by_cases h : (decU 0 0 l).2.2 = 0
  · obtain ⟨n, hv, _, hn, _⟩ := decU_can l 0 0 (decU 0 0 l).1 (decU 0 0 l).2.1 (by omega) (by rw [← h])
    rw [hv]
    omega
  · rw [(decU_err l 0 0 h).1]
    exact (by decide : 0 < 18446744073709551616)
theorem uintR_lt (l : List UInt8) (e : Int) : (uintR l e).1 < 18446744073709551616 := by
  unfold uintR
  split
  · exact decU_lt l
  · exact (by decide : 0 < 18446744073709551616)
/-- a number of either sign off a reader -/
def intR (l : List UInt8) (e : Int) : Int × List UInt8 × Int := (unzz (uintR l e).1, (uintR l e).2.1, (uintR l e).2.2)
theorem unzz_shift (u : Nat) (h : u < 18446744073709551616) : bits .xor .i64 (wrap64 ((u : Int) / 2)) (wrap64 (-(wrap64 (bits .and .u64 (u : Int) 1)))) = unzz u := by
  rw [Lib.u64_and1 _ (by omega) (by omega), IntWalk.wrap64_in _ (by omega), IntWalk.wrap64_in ((u : Int) % 2) (by omega), IntWalk.wrap64_in _ (by omega)]
  have hx : ∀ a b : Int, bits .xor .i64 a b = IntKind.i64.wrap ((BitVec.ofInt 64 a ^^^ BitVec.ofInt 64 b).toNat : Int) := fun _ _ => rfl
  have e2 : (u : Int) / 2 = ((u / 2 : Nat) : Int) := by omega
  unfold unzz
  by_cases q : u % 2 = 1
  · rw [if_pos q, show -((u : Int) % 2) = -1 by omega, hx, BitVec.xor_comm, ← hx, e2, Lib.i64_not _ (by omega)]
  · rw [if_neg q, show -((u : Int) % 2) = 0 by omega, hx, e2]
    have h0 : BitVec.ofInt 64 0 = 0#64 := by decide
    rw [h0, BitVec.xor_zero, BitVec.ofInt_natCast, BitVec.toNat_ofNat, Nat.mod_eq_of_lt (by omega), IntKind.wrap_i64]
    omega
set_option maxRecDepth 100000 in
set_option maxHeartbeats 1600000 in
theorem rint_any {w : World} {rb B : Nat} {l : List UInt8} {e : Int} (h : Rdr w rb B l e) : Calls Tryd.prog 95 #[.pointer (some ⟨rb, 0, none⟩)] w fun en w' => en = .returned (.int .i64 (intR l e).1) ∧ Rdr w' rb B (intR l e).2.1 (intR l e).2.2 ∧ Kept rb w w' := by
  have hk := ruint_any h
  obtain ⟨u, hu⟩ : ∃ u, u = (uintR l e).1 := ⟨_, rfl⟩
  rw [← hu] at hk
  have hz := unzz_shift u (by rw [hu]; exact uintR_lt l e)
  replace hk := Lib.hid hk; replace h := Lib.hid h; replace hu := Lib.hid hu
  go_enter Tryd.func95, Tryd.ntmps95
  go_wp2_with fail
  refine hk.out.mono ?_
  rintro en w1 ⟨rfl, hR, hK⟩
  replace hR := Lib.hid hR; replace hK := Lib.hid hK
  go_wp2
  go_ret
  exact ⟨by unfold intR; rw [← hu.out]; rfl, hR.out, hK.out⟩
/-- how many, at most so many -/
def cntR (l : List UInt8) (e : Int) (most : Nat) : Nat × List UInt8 × Int := if most < (uintR l e).1 then (0, failL (uintR l e).2.1 (uintR l e).2.2 11, failE (uintR l e).2.2 11) else uintR l e
set_option maxRecDepth 100000 in
set_option maxHeartbeats 1600000 in
theorem rcount_any {w : World} {rb B : Nat} {l : List UInt8} {e : Int} (h : Rdr w rb B l e) (most : Nat) (hm : most ≤ 1000000) : Calls Tryd.prog 148 #[.pointer (some ⟨rb, 0, none⟩), .int .i64 most] w fun en w' => en = .returned (.int .i64 (cntR l e most).1) ∧ Rdr w' rb B (cntR l e most).2.1 (cntR l e most).2.2 ∧ Kept rb w w' := by
  have hk := ruint_any h
  obtain ⟨u, hu⟩ : ∃ u, u = (uintR l e).1 := ⟨_, rfl⟩
  obtain ⟨r, hr⟩ : ∃ r, r = (uintR l e).2.1 := ⟨_, rfl⟩
  obtain ⟨x, hx⟩ : ∃ x, x = (uintR l e).2.2 := ⟨_, rfl⟩
  have hlt : u < 18446744073709551616 := by rw [hu]; exact uintR_lt l e
  have hun : uintR l e = (u, r, x) := by rw [hu, hr, hx]
  rw [← hu, ← hr, ← hx] at hk
  have hmax : max (most : Int) 0 = (most : Int) := by omega
  have hwm : IntKind.u64.wrap (most : Int) = (most : Int) := by rw [IntKind.wrap_u64]; omega
  by_cases q : most < u
  · have d : decide ((most : Int) < (u : Int)) = true := decide_eq_true (by omega)
    have d' : decide (most < u) = true := decide_eq_true q
    have e1 : cntR l e most = (0, failL r x 11, failE x 11) := by unfold cntR; rw [← hu, if_pos q, hun]
    replace hk := Lib.hid hk; replace h := Lib.hid h; replace hu := Lib.hid hu; replace hr := Lib.hid hr; replace hx := Lib.hid hx; replace hun := Lib.hid hun; replace e1 := Lib.hid e1; replace q := Lib.hid q
    go_enter Tryd.func148, Tryd.ntmps148
    go_wp2_with fail
    refine hk.out.mono ?_
    rintro en w1 ⟨rfl, hR, hK⟩
    have hF := rfail_any hR 11
    replace hR := Lib.hid hR; replace hK := Lib.hid hK; replace hF := Lib.hid hF
    go_wp2_with fail
    refine hF.out.mono ?_
    rintro en w2 ⟨rfl, hR2, hK2⟩
    have hKK := hK.out.trans hK2
    replace hR2 := Lib.hid hR2; replace hK2 := Lib.hid hK2; replace hKK := Lib.hid hKK
    go_wp2
    go_ret
    exact ⟨by rw [e1.out]; rfl, by rw [e1.out]; exact hR2.out, hKK.out⟩
  · have d : decide ((most : Int) < (u : Int)) = false := decide_eq_false (by omega)
    have d' : decide (most < u) = false := decide_eq_false q
    have e1 : cntR l e most = (u, r, x) := by unfold cntR; rw [← hu, if_neg q, hun]
    have hwu : wrap64 (u : Int) = (u : Int) := IntWalk.wrap64_in _ (by omega)
    replace hk := Lib.hid hk; replace h := Lib.hid h; replace hu := Lib.hid hu; replace hr := Lib.hid hr; replace hx := Lib.hid hx; replace hun := Lib.hid hun; replace e1 := Lib.hid e1; replace q := Lib.hid q
    go_enter Tryd.func148, Tryd.ntmps148
    go_wp2_with fail
    refine hk.out.mono ?_
    rintro en w1 ⟨rfl, hR, hK⟩
    replace hR := Lib.hid hR; replace hK := Lib.hid hK
    go_wp2
    go_ret
    exact ⟨by rw [e1.out]; show Ending.returned (.int .i64 (wrap64 (u : Int))) = _; rw [hwu], by rw [e1.out]; exact hR.out, hK.out⟩
/-- a text off a reader -/
def textR (l : List UInt8) (e : Int) (most : Nat) : List UInt8 × List UInt8 × Int :=
  if (cntR l e most).2.2 ≠ 0 then ([], (cntR l e most).2.1, (cntR l e most).2.2)
  else if (cntR l e most).2.1.length < (cntR l e most).1 then ([], [], 10)
  else ((cntR l e most).2.1.take (cntR l e most).1, (cntR l e most).2.1.drop (cntR l e most).1, 0)
theorem conv_byts {w : World} {so : Option Addr} {n : Nat} {l : List UInt8} (h : BytsAt w so n l) (c : Nat) : (convert 67 9 (.slice so n c)).run Tryd.prog w = .ok (.string (ofL l)) w := by
  cases so with
  | none =>
    have e : l = [] := by
      cases l with
      | nil => rfl
      | cons x l =>
        obtain ⟨b, off, e, _⟩ := h.cell 0 x rfl
        cases e
    subst e
    exact run_convert_bytes_nil w 67 5 Tryd.underlying67 Tryd.underlying5 n c 9 Tryd.underlying9
  | some ad =>
    have hl := h.len
    subst hl
    refine run_convert_bytes_back w 67 9 5 ad c l Tryd.underlying67 Tryd.underlying5 Tryd.underlying9 fun j hj => ?_
    obtain ⟨b, off, e, _, hc⟩ := h.cell j _ (List.getElem?_eq_getElem hj)
    rw [Option.some.inj e, show (⟨b, off, none⟩ : Addr).add j = ⟨b, off + j, none⟩ by unfold Addr.add; cases j <;> rfl]
    exact hc
theorem byts_take {w : World} {so : Option Addr} {n : Nat} {l : List UInt8} (h : BytsAt w so n l) (k : Nat) (hk : k ≤ n) : BytsAt w so k (l.take k) :=
  ⟨by rw [List.length_take, h.len]; omega, by have := h.max; omega, fun i x hx => by
    rw [List.getElem?_take] at hx
    split at hx
    · exact h.cell i x hx
    · cases hx⟩
set_option maxRecDepth 100000 in
set_option maxHeartbeats 3200000 in
theorem rtxt_any {w : World} {rb B : Nat} {l : List UInt8} {e : Int} (h : Rdr w rb B l e) (most : Nat) (hm : most ≤ 1000000) : Calls Tryd.prog 128 #[.pointer (some ⟨rb, 0, none⟩), .int .i64 most] w fun en w' => en = .returned (.string (ofL (textR l e most).1)) ∧ Rdr w' rb B (textR l e most).2.1 (textR l e most).2.2 ∧ Kept rb w w' := by
  have hk := rcount_any h most hm
  obtain ⟨u, hu⟩ : ∃ u, u = (cntR l e most).1 := ⟨_, rfl⟩
  obtain ⟨r, hr⟩ : ∃ r, r = (cntR l e most).2.1 := ⟨_, rfl⟩
  obtain ⟨x, hx⟩ : ∃ x, x = (cntR l e most).2.2 := ⟨_, rfl⟩
  have hum : u ≤ most := by
    rw [hu]
    unfold cntR
    split
    · exact Nat.zero_le _
    · omega
  have hun : cntR l e most = (u, r, x) := by rw [hu, hr, hx]
  rw [← hu, ← hr, ← hx] at hk
  by_cases q : x = 0
  rotate_left
  · have d : (x != (0 : Int)) = true := by rw [bne_iff_ne]; exact q
    have e1 : textR l e most = ([], r, x) := by unfold textR; rw [← hx, ← hr, if_pos q]
    replace hk := Lib.hid hk; replace h := Lib.hid h; replace hu := Lib.hid hu; replace hr := Lib.hid hr; replace hx := Lib.hid hx; replace hun := Lib.hid hun; replace e1 := Lib.hid e1; replace q := Lib.hid q
    go_enter Tryd.func128, Tryd.ntmps128
    go_wp2_with fail
    refine hk.out.mono ?_
    rintro en w1 ⟨rfl, hR, hK⟩
    obtain ⟨so, n, c, h1, h2, h3, h4, h5⟩ := hR.ex
    have y1 : w1.cell? ⟨rb, 1, none⟩ = some (.int .i64 x) := blk_cell h1 1
    replace hR := Lib.hid hR; replace hK := Lib.hid hK; replace h1 := Lib.hid h1; replace h2 := Lib.hid h2; replace h3 := Lib.hid h3; replace h4 := Lib.hid h4; replace h5 := Lib.hid h5
    go_wp2
    go_ret
    exact ⟨by rw [e1.out]; rfl, by rw [e1.out]; exact hR.out, hK.out⟩
  subst q
  have d : ((0 : Int) != (0 : Int)) = false := rfl
  by_cases q2 : r.length < u
  · have e1 : textR l e most = ([], [], 10) := by unfold textR; rw [← hx, ← hr, ← hu, if_neg (by simp), if_pos q2]
    replace hk := Lib.hid hk; replace h := Lib.hid h; replace hu := Lib.hid hu; replace hr := Lib.hid hr; replace hx := Lib.hid hx; replace hun := Lib.hid hun; replace e1 := Lib.hid e1
    go_enter Tryd.func128, Tryd.ntmps128
    go_wp2_with fail
    refine hk.out.mono ?_
    rintro en w1 ⟨rfl, hR, hK⟩
    obtain ⟨so, n, c, h1, h2, h3, h4, h5⟩ := hR.ex
    have y1 : w1.cell? ⟨rb, 1, none⟩ = some (.int .i64 0) := blk_cell h1 1
    have y0 : w1.cell? ⟨rb, 0, none⟩ = some (.slice so n c) := blk_cell h1 0
    have hln := h2.len
    have hnu : n < u := by omega
    have d2 : decide ((n : Int) < (u : Int)) = true := decide_eq_true (by omega)
    have d2' : decide (n < u) = true := decide_eq_true hnu
    have hF := rfail_any hR 10
    replace hR := Lib.hid hR; replace hK := Lib.hid hK; replace h1 := Lib.hid h1; replace h2 := Lib.hid h2; replace h3 := Lib.hid h3; replace h4 := Lib.hid h4; replace h5 := Lib.hid h5; replace hln := Lib.hid hln; replace q2 := Lib.hid q2; replace hF := Lib.hid hF; replace hnu := Lib.hid hnu
    go_wp2_with fail
    refine hF.out.mono ?_
    rintro en w2 ⟨rfl, hR2, hK2⟩
    have hKK := hK.out.trans hK2
    replace hR2 := Lib.hid hR2; replace hK2 := Lib.hid hK2; replace hKK := Lib.hid hKK
    go_wp2
    go_ret
    exact ⟨by rw [e1.out]; rfl, by rw [e1.out]; exact hR2.out, hKK.out⟩
  · have e1 : textR l e most = (r.take u, r.drop u, 0) := by unfold textR; rw [← hx, ← hr, ← hu, if_neg (by simp), if_neg q2]
    replace hk := Lib.hid hk; replace h := Lib.hid h; replace hu := Lib.hid hu; replace hr := Lib.hid hr; replace hx := Lib.hid hx; replace hun := Lib.hid hun; replace e1 := Lib.hid e1
    go_enter Tryd.func128, Tryd.ntmps128
    go_wp2_with fail
    refine hk.out.mono ?_
    rintro en w1 ⟨rfl, hR, hK⟩
    obtain ⟨so, n, c, h1, h2, h3, h4, h5⟩ := hR.ex
    have y1 : w1.cell? ⟨rb, 1, none⟩ = some (.int .i64 0) := blk_cell h1 1
    have y0 : w1.cell? ⟨rb, 0, none⟩ = some (.slice so n c) := blk_cell h1 0
    have f0 := blk_free h1 0
    have hln := h2.len
    have hnu : u ≤ n := by omega
    have d2 : decide ((n : Int) < (u : Int)) = false := decide_eq_false (by omega)
    have d2' : decide (n < u) = false := decide_eq_false (by omega)
    have hcv := conv_byts (byts_take h2 u hnu) c
    by_cases hn0 : n = 0
    · subst hn0
      obtain rfl : u = 0 := by omega
      have hr0 : r = [] := List.eq_nil_of_length_eq_zero (by omega)
      subst hr0
      have hR2 : Rdr (w1.setCell ⟨rb, 0, none⟩ (.slice so 0 c)) rb B [] 0 := ⟨so, 0, c, by simpa using blk_set h1 0 (.slice so 0 c), ⟨rfl, by omega, fun i x hx => by simp at hx⟩, h3, h4, fun h => absurd rfl h⟩
      have hKK := hK.trans (Kept.set rb 0 w1 (.slice so 0 c))
      cases so with
      | none =>
        obtain ⟨_, rfl⟩ := h4 rfl
        replace hR := Lib.hid hR; replace hK := Lib.hid hK; replace h1 := Lib.hid h1; replace h2 := Lib.hid h2; replace h4 := Lib.hid h4; replace h5 := Lib.hid h5; replace hln := Lib.hid hln; replace q2 := Lib.hid q2; replace hR2 := Lib.hid hR2; replace hKK := Lib.hid hKK
        go_wp2
        go_ret
        exact ⟨by rw [e1.out]; rfl, by rw [e1.out]; exact hR2.out, hKK.out⟩
      | some ad =>
        by_cases hc0 : c = 0
        · subst hc0
          replace hR := Lib.hid hR; replace hK := Lib.hid hK; replace h1 := Lib.hid h1; replace h2 := Lib.hid h2; replace h4 := Lib.hid h4; replace h5 := Lib.hid h5; replace hln := Lib.hid hln; replace q2 := Lib.hid q2; replace hR2 := Lib.hid hR2; replace hKK := Lib.hid hKK
          go_wp2
          go_ret
          exact ⟨by rw [e1.out]; rfl, by rw [e1.out]; exact hR2.out, hKK.out⟩
        · replace hR := Lib.hid hR; replace hK := Lib.hid hK; replace h1 := Lib.hid h1; replace h2 := Lib.hid h2; replace h4 := Lib.hid h4; replace h5 := Lib.hid h5; replace hln := Lib.hid hln; replace q2 := Lib.hid q2; replace hR2 := Lib.hid hR2; replace hKK := Lib.hid hKK
          go_wp2
          go_ret
          exact ⟨by rw [e1.out]; rfl, by rw [e1.out]; exact hR2.out, hKK.out⟩
    obtain ⟨x0, hx0⟩ : ∃ x0, r[0]? = some x0 := ⟨_, List.getElem?_eq_getElem (by omega)⟩
    obtain ⟨b, off, rfl, _, _⟩ := h2.cell 0 x0 hx0
    by_cases hcu : c = u
    · obtain rfl : n = u := by omega
      subst hcu
      have hz : r.drop c = [] := List.drop_of_length_le (by omega)
      have hR2 : Rdr (w1.setCell ⟨rb, 0, none⟩ (.slice (some ⟨b, off, none⟩) 0 0)) rb B (r.drop c) 0 := by
        rw [hz]
        exact ⟨_, 0, 0, by simpa using blk_set h1 0 (.slice (some ⟨b, off, none⟩) 0 0), ⟨rfl, by omega, fun i x hx => by simp at hx⟩, Nat.le_refl _, fun h => (by cases h), fun h => absurd rfl h⟩
      have hKK := hK.trans (Kept.set rb 0 w1 (.slice (some ⟨b, off, none⟩) 0 0))
      replace hR := Lib.hid hR; replace hK := Lib.hid hK; replace h1 := Lib.hid h1; replace h2 := Lib.hid h2; replace h4 := Lib.hid h4; replace h5 := Lib.hid h5; replace hln := Lib.hid hln; replace q2 := Lib.hid q2; replace hR2 := Lib.hid hR2; replace hKK := Lib.hid hKK; replace hx0 := Lib.hid hx0; replace hz := Lib.hid hz
      go_wp2
      go_ret
      exact ⟨by rw [e1.out]; rfl, by rw [e1.out]; exact hR2.out, hKK.out⟩
    · have hKs := Kept.set rb 0 w1 (.slice (some ⟨b, off + u, none⟩) (n - u) (c - u))
      have hR2 : Rdr (w1.setCell ⟨rb, 0, none⟩ (.slice (some ⟨b, off + u, none⟩) (n - u) (c - u))) rb B (r.drop u) 0 :=
        ⟨_, _, _, by simpa using blk_set h1 0 (.slice (some ⟨b, off + u, none⟩) (n - u) (c - u)), byts_kept h1 (byts_drop h2 u hnu) hKs, by omega, fun h => (by cases h), fun _ ad e => by have h6 := h5 (fun c => by rw [c] at hx0; simp at hx0) _ rfl; rw [← Option.some.inj e]; exact h6⟩
      have hKK := hK.trans hKs
      replace hR := Lib.hid hR; replace hK := Lib.hid hK; replace h1 := Lib.hid h1; replace h2 := Lib.hid h2; replace h4 := Lib.hid h4; replace h5 := Lib.hid h5; replace hln := Lib.hid hln; replace q2 := Lib.hid q2; replace hR2 := Lib.hid hR2; replace hKK := Lib.hid hKK; replace hx0 := Lib.hid hx0; replace hKs := Lib.hid hKs
      go_wp2
      go_ret
      exact ⟨by rw [e1.out]; rfl, by rw [e1.out]; exact hR2.out, hKK.out⟩
/-- the error at the end: too many bytes are one -/
def endE (l : List UInt8) (e : Int) : Int := if 0 < l.length then failE e 11 else e
end Go.Proofs.YteoihdkaoipocaaDoor
