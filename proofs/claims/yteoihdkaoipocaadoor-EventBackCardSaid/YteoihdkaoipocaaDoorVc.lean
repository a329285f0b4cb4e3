/- Parts Dig, Rtx, Shelg, Vtx, Nod, Flt, Put, Rgf, Lin, Rdp, Rdq, Rdr, Bld, Rdf, Fpl, Len, Fin, Fpa, Fto, Fct, Ftx, Prp, Hst, Rfl, Rfm, Rpa, Nda, Rvr, Rnd, Rre, Sma, Rft, Pbk in one text. Plain theorems: no condition. -/
import Derived.Test.YteoihdkaoipocaaDoorVa
import Derived.Lib.ItoaNum
import Derived.IntWalk
import Derived.Shelf.Strconv.AppendInt10
import Derived.Shelf.Strconv.AppendIntPublic10
import Derived.Shelf.Strconv.AppendUint10
import Derived.Shelf.Strings.Builder2Cap
import Derived.Shelf.Strings.BuilderCap
import Derived.Shelf.Strings.BuilderK
import Derived.Laws.IdiomStrings
import Derived.Laws.AppendOwnNone
import Derived.StillTailTactics
import Derived.Maps.OwnSet
import Derived.Maps.OwnOps
import Derived.Maps.Own
import Derived.Deep.DeepCutAuto
import Derived.Deep.RegionWith
import Derived.Deep.CutBlock
import Derived.Deep.RegionLaw
import Derived.Deep.RegionHeld3
import Derived.RangeFuncWrites
import Derived.RangeFuncLeaves
import Derived.WalkKit
import Derived.RangeFuncNested
import Derived.RangeFuncBound
import Derived.RangeFuncCalls
import Derived.Shelf.Abstract
import Derived.Shelf.RegionOpen
import Derived.OwnWalkIn
import Derived.TacticsInMore
import Derived.LoopNIn
import Derived.LoopIn
import Derived.Maps.OwnIn
import Derived.Lib.OthersKept
import Derived.Shelf.Strings.Builder1
import Derived.Lib.Builder
import Derived.OwnWalk
import Derived.Lib.OwnBridge
import Derived.ChangeKeysEq
/- corveeref03.Digits: a number in decimal digits. -/
namespace Go.Proofs.YteoihdkaoipocaaDoor
open Go.RowKit

def digS : ByteArray := { data := #[48, 49, 50, 51, 52, 53, 54, 55, 56, 57] }
theorem ofL_app (a b : List UInt8) : ofL a ++ ofL b = ofL (a ++ b) := toL_inj (by rw [ofL_toL]; simp [ofL])
theorem dec_len : ∀ (n u : Nat), u < 10 ^ (n + 1) → (Lib.decDigits u).length ≤ n + 1
  | 0, u, h => by rw [Lib.decDigits, dif_pos (by simpa using h)]; simp
  | n + 1, u, h => by
    rw [Lib.decDigits]
    split
    · simp
    · have := dec_len n (u / 10) (by rw [Nat.pow_succ] at h; omega)
      rw [List.length_append]
      simp
      omega
theorem dec_le {u : Nat} (h : u ≤ 9223372036854775808) : (Lib.decDigits u).length ≤ 19 := by
  refine dec_len 18 u ?_
  have : (10 : Nat) ^ (18 + 1) = 10000000000000000000 := by decide
  rw [this]
  omega
theorem itoa_len {n : Int} (h0 : -9223372036854775808 ≤ n) (h1 : n ≤ 9223372036854775807) : (Lib.itoa n).length ≤ 20 := by
  unfold Lib.itoa
  split
  · have := dec_le (u := n.natAbs) (by omega)
    simp; omega
  · have := dec_le (u := n.toNat) (by omega)
    omega
end Go.Proofs.YteoihdkaoipocaaDoor

/- corveeref03.Text: an amount as a text. -/
namespace Go.Proofs.YteoihdkaoipocaaDoor
open Go.RowKit

/-- an amount as a text -/
def txtV (v : V4) : List UInt8 := Lib.itoa v.a ++ [44] ++ Lib.itoa v.b ++ [44] ++ Lib.itoa v.c ++ [44] ++ Lib.itoa v.d
structure V64 (v : V4) : Prop where
  a : -9223372036854775808 ≤ v.a ∧ v.a ≤ 9223372036854775807
  b : -9223372036854775808 ≤ v.b ∧ v.b ≤ 9223372036854775807
  c : -9223372036854775808 ≤ v.c ∧ v.c ≤ 9223372036854775807
  d : -9223372036854775808 ≤ v.d ∧ v.d ≤ 9223372036854775807
theorem txtV_len {v : V4} (h : V64 v) : (txtV v).length ≤ 83 := by
  have a := itoa_len h.a.1 h.a.2
  have b := itoa_len h.b.1 h.b.2
  have c := itoa_len h.c.1 h.c.2
  have d := itoa_len h.d.1 h.d.2
  simp [txtV]
  omega
end Go.Proofs.YteoihdkaoipocaaDoor

/- More of the library's contracts at this dump: strconv.AppendInt, strings.Builder. Laid by the kit's command. -/
namespace Go.Proofs
open Go.Shelf Go.RowKit Go.Sort Go.Lib
set_option maxRecDepth 100000
def Tryd.laysM288_ren : Go.Shelf.Ren := ⟨fun | 288 => 173 | 283 => 169 | 284 => 170 | 285 => 171 | 286 => 172 | 129 => 160 | 317 => 185 | 318 => 186 | 319 => 187 | 320 => 188 | 337 => 190 | 338 => 191 | n => n, fun | 37 => 67 | 53 => 153 | 3 => 3 | 4 => 4 | 9 => 9 | 171 => 188 | 0 => 0 | 173 => 190 | 212 => 201 | 51 => 183 | 5 => 5 | 20 => 20 | 213 => 202 | 46 => 154 | 232 => 209 | 233 => 210 | n => n, fun | 17 => 1 | 18 => 4 | 19 => 5 | n => n⟩
def Tryd.laysM249_ren : Go.Shelf.Ren := ⟨fun | 249 => 146 | 288 => 173 | 283 => 169 | 284 => 170 | 285 => 171 | 286 => 172 | 129 => 160 | 317 => 185 | 318 => 186 | 319 => 187 | 320 => 188 | 337 => 190 | 338 => 191 | n => n, fun | 37 => 67 | 2 => 2 | 3 => 3 | 53 => 153 | 4 => 4 | 9 => 9 | 171 => 188 | 0 => 0 | 173 => 190 | 212 => 201 | 51 => 183 | 5 => 5 | 20 => 20 | 213 => 202 | 46 => 154 | 232 => 209 | 233 => 210 | n => n, fun | 17 => 1 | 18 => 4 | 19 => 5 | n => n⟩
def Tryd.laysM176_ren : Go.Shelf.Ren := ⟨fun | 176 => 119 | 249 => 146 | 288 => 173 | 283 => 169 | 284 => 170 | 285 => 171 | 286 => 172 | 129 => 160 | 317 => 185 | 318 => 186 | 319 => 187 | 320 => 188 | 337 => 190 | 338 => 191 | n => n, fun | 37 => 67 | 2 => 2 | 3 => 3 | 53 => 153 | 4 => 4 | 9 => 9 | 171 => 188 | 0 => 0 | 173 => 190 | 212 => 201 | 51 => 183 | 5 => 5 | 20 => 20 | 213 => 202 | 46 => 154 | 232 => 209 | 233 => 210 | n => n, fun | 17 => 1 | 18 => 4 | 19 => 5 | n => n⟩
theorem Tryd.laysM176 : Go.Proofs.LaysM.n176 Tryd.prog Tryd.laysM176_ren := {
  mixed := by kernel_rfl
  f129 := Tryd.func160.trans (congrArg some (by kernel_rfl))
  f176 := Tryd.func119.trans (congrArg some (by kernel_rfl))
  f249 := Tryd.func146.trans (congrArg some (by kernel_rfl))
  f283 := Tryd.func169.trans (congrArg some (by kernel_rfl))
  f284 := Tryd.func170.trans (congrArg some (by kernel_rfl))
  f285 := Tryd.func171.trans (congrArg some (by kernel_rfl))
  f286 := Tryd.func172.trans (congrArg some (by kernel_rfl))
  f288 := Tryd.func173.trans (congrArg some (by kernel_rfl))
  f317 := Tryd.func185.trans (congrArg some (by kernel_rfl))
  f318 := Tryd.func186.trans (congrArg some (by kernel_rfl))
  f319 := Tryd.func187.trans (congrArg some (by kernel_rfl))
  f320 := Tryd.func188.trans (congrArg some (by kernel_rfl))
  f337 := Tryd.func190.trans (congrArg some (by kernel_rfl))
  f338 := Tryd.func191.trans (congrArg some (by kernel_rfl))
  t0 := Tryd.underlying0
  a0 := Tryd.isAgg0
  z0 := Tryd.sizeOf0
  v0 := Tryd.zeroValue0
  t2 := Tryd.underlying2
  a2 := Tryd.isAgg2
  z2 := Tryd.sizeOf2
  v2 := Tryd.zeroValue2
  t3 := Tryd.underlying3
  a3 := Tryd.isAgg3
  z3 := Tryd.sizeOf3
  v3 := Tryd.zeroValue3
  t4 := Tryd.underlying4
  a4 := Tryd.isAgg4
  z4 := Tryd.sizeOf4
  v4 := Tryd.zeroValue4
  t5 := Tryd.underlying5
  a5 := Tryd.isAgg5
  z5 := Tryd.sizeOf5
  v5 := Tryd.zeroValue5
  t9 := Tryd.underlying9
  a9 := Tryd.isAgg9
  z9 := Tryd.sizeOf9
  v9 := Tryd.zeroValue9
  t20 := Tryd.underlying20
  a20 := Tryd.isAgg20
  z20 := Tryd.sizeOf20
  v20 := Tryd.zeroValue20
  t37 := Tryd.underlying67
  a37 := Tryd.isAgg67
  z37 := Tryd.sizeOf67
  v37 := Tryd.zeroValue67
  t46 := Tryd.underlying154
  a46 := Tryd.isAgg154
  z46 := Tryd.sizeOf154
  v46 := Tryd.zeroValue154
  t51 := Tryd.underlying183
  a51 := Tryd.isAgg183
  z51 := Tryd.sizeOf183
  v51 := Tryd.zeroValue183
  t53 := Tryd.underlying153
  a53 := Tryd.isAgg153
  z53 := Tryd.sizeOf153
  v53 := Tryd.zeroValue153
  t171 := Tryd.underlying188
  a171 := Tryd.isAgg188
  z171 := Tryd.sizeOf188
  v171 := Tryd.zeroValue188
  t173 := Tryd.underlying190
  a173 := Tryd.isAgg190
  z173 := Tryd.sizeOf190
  v173 := Tryd.zeroValue190
  t212 := Tryd.underlying201
  a212 := Tryd.isAgg201
  z212 := Tryd.sizeOf201
  v212 := Tryd.zeroValue201
  t213 := Tryd.underlying202
  a213 := Tryd.isAgg202
  z213 := Tryd.sizeOf202
  t232 := Tryd.underlying209
  a232 := Tryd.isAgg209
  z232 := Tryd.sizeOf209
  v232 := Tryd.zeroValue209
  t233 := Tryd.underlying210
  a233 := Tryd.isAgg210
  z233 := Tryd.sizeOf210
  v233 := Tryd.zeroValue210
  g17 := by kernel_rfl
  g18 := by kernel_rfl
  g19 := by kernel_rfl
  i0 := by kernel_rfl
  i2 := by kernel_rfl
  i3 := by kernel_rfl
  i4 := by kernel_rfl
  i5 := by kernel_rfl
  i9 := by kernel_rfl
  i20 := by kernel_rfl
  i37 := by kernel_rfl
  i46 := by kernel_rfl
  i51 := by kernel_rfl
  i53 := by kernel_rfl
  i171 := by kernel_rfl
  i173 := by kernel_rfl
  i212 := by kernel_rfl
  i232 := by kernel_rfl
  i233 := by kernel_rfl
  m17 := by kernel_rfl
  m18 := by kernel_rfl
  m19 := by kernel_rfl }
theorem Tryd.strconv_AppendInt_10 (B n : Nat) (i : Int) (h0 : -9223372036854775808 ≤ i) (h1 : i ≤ 9223372036854775807) (sv : Value) (xs : List Value) (w : World) (hown : w.ownsRow B 5 1 sv n xs) (hBw : B ≤ w.heap.size) (hlim : n + 21 ≤ 140737488355328) (htab : Lib.TabBelow Tryd.prog B w "internal/strconv.uint64pow10" .u64 Lib.pow10Tab) :
    Calls Tryd.prog 119 #[sv, .int .i64 i, .int .i64 10] w fun e w' => ∃ v', e = .returned v' ∧ w'.ownsRow B 5 1 v' (n + (Lib.itoa i).length) (xs ++ Lib.byteCells (Lib.itoa i)) ∧ Below B w w' ∧ Lib.OthersKept 5 none w w' := Any.strconv_AppendInt_10 Tryd.laysM176 B n i h0 h1 sv xs w hown hBw hlim htab
end Go.Proofs

/- vec.Text: an amount as a text. -/
namespace Go.Proofs.YteoihdkaoipocaaDoor
open Go.RowKit

/-- the library's table of powers of ten lies where it lay -/
def Tb (w : World) : Prop := Lib.TabBelow Tryd.prog w.heap.size w "internal/strconv.uint64pow10" .u64 Lib.pow10Tab
theorem tab_mono {B C : Nat} {w : World} (h : Lib.TabBelow Tryd.prog B w "internal/strconv.uint64pow10" .u64 Lib.pow10Tab) (hb : B ≤ C) : Lib.TabBelow Tryd.prog C w "internal/strconv.uint64pow10" .u64 Lib.pow10Tab := fun w' h' => h w' (h'.mono hb)
theorem Tb.low {w w' : World} (h : Tb w) (hb : Below w.heap.size w w') : Tb w' := tab_mono (Lib.TabBelow.on h hb) hb.size
/-- the text so far -/
def txtTo (v : V4) : Nat → List UInt8
  | 0 => []
  | 1 => Lib.itoa v.a
  | 2 => Lib.itoa v.a ++ [44] ++ Lib.itoa v.b
  | 3 => Lib.itoa v.a ++ [44] ++ Lib.itoa v.b ++ [44] ++ Lib.itoa v.c
  | _ => txtV v
structure VtW (w : World) (bv : Value) (l : List UInt8) (W : World) : Prop where
  low : Below w.heap.size w W
  row : W.ownsRow w.heap.size 5 1 bv l.length (Lib.byteCells l)
theorem info5 : (Tryd.prog.info? 5).map (fun i => (i.zero, i.size, i.bytes)) = some (some (.int .u8 0), 1, 1) := by kernel_rfl
theorem byteCells_app (a b : List UInt8) : Lib.byteCells (a ++ b) = Lib.byteCells a ++ Lib.byteCells b := by simp [Lib.byteCells]
theorem comma_news (w : World) : ∀ j u, ([.int .u8 44] : List Value)[j]? = some u → (w.alloc (.cells #[.int .u8 44] 5 (0, 0))).cell? ((⟨w.heap.size, 0, none⟩ : Addr).add j) = some u := by
  intro j u hu
  match j, hu with
  | 0, hu =>
    have := blk_cell (blk_new w (.cells #[.int .u8 44] 5 (0, 0))) 0
    simp at hu; subst hu
    exact this
  | j + 1, hu => simp at hu
theorem vt_index (a b c d : Int) (j : Nat) (hj : j < 4) (w : World) : (Instr.index 25 (.agg #[.int .i64 a, .int .i64 b, .int .i64 c, .int .i64 d]) (.int .i64 (j : Int))).run Tryd.prog w = .ok (.int .i64 (V4.get ⟨a, b, c, d⟩ j)) w := by
  rcases (show j = 0 ∨ j = 1 ∨ j = 2 ∨ j = 3 by omega) with rfl | rfl | rfl | rfl <;> kernel_rfl
theorem get_64 {v : V4} (h : V64 v) (j : Nat) : -9223372036854775808 ≤ v.get j ∧ v.get j ≤ 9223372036854775807 := by
  match j with
  | 0 => exact h.a
  | 1 => exact h.b
  | 2 => exact h.c
  | j + 3 => exact h.d
theorem txtTo_step (v : V4) (j : Nat) (hj : j < 4) : txtTo v (j + 1) = txtTo v j ++ (if j = 0 then [] else [44]) ++ Lib.itoa (v.get j) := by
  rcases (show j = 0 ∨ j = 1 ∨ j = 2 ∨ j = 3 by omega) with rfl | rfl | rfl | rfl
  · rfl
  · rfl
  · rfl
  · rfl
theorem txtTo_len {v : V4} (h : V64 v) (j : Nat) (hj : j ≤ 4) : (txtTo v j).length ≤ 21 * j := by
  induction j with
  | zero => simp [txtTo]
  | succ j ih =>
    rw [txtTo_step v j (by omega), List.length_append, List.length_append]
    have h1 := ih (by omega)
    have h2 := itoa_len (get_64 h j).1 (get_64 h j).2
    have h3 : (if j = 0 then ([] : List UInt8) else [44]).length ≤ 1 := by split <;> simp
    omega
set_option maxRecDepth 100000 in
set_option maxHeartbeats 1600000 in
theorem vtext_any (v : V4) (hv : V64 v) (w : World) (ht : Tb w) : Calls Tryd.prog 75 #[v.val] w fun e w' => e = .returned (.string (ofL (txtV v))) ∧ Below w.heap.size w w' := by
  obtain ⟨i5, hi5, hz5, hz51, hz52⟩ := info_parts info5
  have hst := fun j (hj : j < 4) => txtTo_step v j hj
  have hll := fun j (hj : j ≤ 4) => txtTo_len hv j hj
  have hgt := get_64 hv
  obtain ⟨va, vb, vc, vd⟩ := v
  have hW0 : VtW w (.slice none 0 0) (txtTo ⟨va, vb, vc, vd⟩ 0) (w.alloc (.cells #[.int .i64 va, .int .i64 vb, .int .i64 vc, .int .i64 vd] 25 (0, 0))) := ⟨(Below.refl _ _).alloc (Nat.le_refl _) _, rfl, .inl ⟨rfl, rfl⟩⟩
  have hst' := Lib.hid hst
  have hll' := Lib.hid hll
  have hgt' := Lib.hid hgt
  clear hst hll hgt
  replace hv := Lib.hid hv; replace ht := Lib.hid ht; replace hW0 := Lib.hid hW0
  go_enter Tryd.func75, Tryd.ntmps75
  go_wp2
  go_loopw [3, 4, 5, 7] (fun bv _ _ i wr => ∃ j : Nat, j ≤ 4 ∧ i = .int .i64 j ∧ Hid (VtW w bv (txtTo ⟨va, vb, vc, vd⟩ j) wr)) (fun _ _ _ i _ => 4 - (intOf i).toNat)
  case atStart => exact ⟨0, by omega, rfl, hW0.out⟩
  case round =>
    obtain ⟨j, hj, rfl, hM⟩ := hrel
    by_cases hc : j < 4
    · have hc1 : (j : Int) < 4 := by omega
      have hix := fun w => vt_index va vb vc vd j hc w
      obtain ⟨x, hx⟩ : ∃ x, x = V4.get ⟨va, vb, vc, vd⟩ j := ⟨_, rfl⟩
      rw [← hx] at hix
      have hxb := hgt'.out j
      rw [← hx] at hxb
      have hs := hst'.out j hc
      rw [← hx] at hs
      obtain ⟨l, hl⟩ : ∃ l, l = txtTo ⟨va, vb, vc, vd⟩ j := ⟨_, rfl⟩
      have hlb := hll'.out j hj
      rw [← hl] at hlb hs
      have hM' := hM.out
      rw [← hl] at hM'
      obtain ⟨n, hn⟩ : ∃ n, n = l.length := ⟨_, rfl⟩
      have hrow := hM'.row
      rw [← hn] at hrow hlb
      have hlow := hM'.low
      by_cases h0 : j = 0
      · subst h0
        have hcl := Tryd.strconv_AppendInt_10 w.heap.size n x hxb.1 hxb.2 u3 (Lib.byteCells l) wr hrow hlow.size (by omega) (Lib.TabBelow.on ht.out hlow)
        rw [if_pos rfl, List.append_nil] at hs
        have hix2 : ∀ w, (Instr.index 25 (.agg #[.int .i64 va, .int .i64 vb, .int .i64 vc, .int .i64 vd]) (.int .i64 0)).run Tryd.prog w = .ok (.int .i64 x) w := hix
        clear hix
        replace hx := Lib.hid hx; replace hs := Lib.hid hs; replace hl := Lib.hid hl; replace hM' := Lib.hid hM'; replace hn := Lib.hid hn; replace hrow := Lib.hid hrow; replace hlow := Lib.hid hlow; replace hcl := Lib.hid hcl; replace hxb := Lib.hid hxb; replace hM := Lib.hid hM
        go_wp2_with fail
        refine hcl.out.mono ?_
        rintro e w2 ⟨v2, rfl, hown2, hb2, _⟩
        have hW2 : VtW w v2 (txtTo ⟨va, vb, vc, vd⟩ (0 + 1)) w2 := ⟨hlow.out.trans hb2, by rw [hs.out, byteCells_app, List.length_append, ← hn.out]; exact hown2⟩
        replace hW2 := Lib.hid hW2; replace hown2 := Lib.hid hown2; replace hb2 := Lib.hid hb2
        clear hix2
        go_wp2
        go_roundw
        case rel => exact ⟨0 + 1, by omega, rfl, hW2.out⟩
        case measure => simp [intOf]
      · have hj0 : (0 : Int) < (j : Int) := by omega
        have dj : decide ((0 : Int) < (j : Int)) = true := decide_eq_true hj0
        have dj' : decide (0 < j) = true := decide_eq_true (by omega)
        rw [if_neg h0] at hs
        have hownA : (wr.alloc (.cells #[.int .u8 44] 5 (0, 0))).ownsRow w.heap.size 5 1 u3 n (Lib.byteCells l) := hrow.alloc (.cells #[.int .u8 44] 5 (0, 0))
        have hnews := comma_news wr
        have hone : ∀ u ∈ ([.int .u8 44] : List Value), u.oneCell' = true := by simp [Value.oneCell']
        have h63 := maxLen_ge (n := n) (by omega)
        have hby : (n + 1) * 1 ≤ 140737488355328 := by omega
        have hbas : w.heap.size ≤ (wr.alloc (.cells #[.int .u8 44] 5 (0, 0))).heap.size := by have := hlow.size; rw [World.size_alloc]; omega
        replace hx := Lib.hid hx; replace hs := Lib.hid hs; replace hl := Lib.hid hl; replace hM' := Lib.hid hM'; replace hn := Lib.hid hn; replace hrow := Lib.hid hrow; replace hlow := Lib.hid hlow; replace hxb := Lib.hid hxb; replace hM := Lib.hid hM; replace hownA := Lib.hid hownA; replace hnews := Lib.hid hnews; replace hone := Lib.hid hone; replace h63 := Lib.hid h63; replace hby := Lib.hid hby; replace hbas := Lib.hid hbas
        go_upto_region 7 with (at_builtin; refine wpList_append_own _ rfl _ _ 67 rfl w.heap.size 5 i5 _ 1 1 Tryd.underlying67 hi5 hz5 hz51 hz52 rfl Nat.one_pos u3 n _ rfl hownA.out ⟨wr.heap.size, 0, none⟩ 1 1 [.int .u8 44] rfl rfl hnews.out hone.out h63.out hby.out hbas.out ?_; intro v1 w9 hown9 hgrow9 _; obtain ⟨g9, cap9, rfl⟩ := Joins.ownsRow_form hown9 (Nat.succ_pos _); replace hown9 := Lib.hid hown9; replace hgrow9 := Lib.hid hgrow9)
        have hB9 : Below w.heap.size w w9 := (hlow.out.alloc hlow.out.size _).grown hgrow9.out hbas.out (fun k e => (hrow.out.lt k e).1)
        have hcl := Tryd.strconv_AppendInt_10 w.heap.size (n + 1) x hxb.out.1 hxb.out.2 (.slice (some ⟨g9, 0, none⟩) (n + 1) cap9) _ w9 hown9.out hB9.size (by omega) (Lib.TabBelow.on ht.out hB9)
        replace hB9 := Lib.hid hB9; replace hcl := Lib.hid hcl
        go_wp2_with fail
        refine hcl.out.mono ?_
        rintro e w2 ⟨v2, rfl, hown2, hb2, _⟩
        have hW2 : VtW w v2 (txtTo ⟨va, vb, vc, vd⟩ (j + 1)) w2 := ⟨hB9.out.trans hb2, by
          rw [hs.out, byteCells_app, byteCells_app, List.length_append, List.length_append, ← hn.out]
          exact hown2⟩
        replace hW2 := Lib.hid hW2; replace hown2 := Lib.hid hown2; replace hb2 := Lib.hid hb2
        clear hix
        go_wp2
        go_roundw
        case rel => exact ⟨j + 1, by omega, by go_num, hW2.out⟩
        case measure => simp [intOf]; omega
    · have hc1 : ¬ (j : Int) < 4 := by omega
      have hj4 : j = 4 := by omega
      subst hj4
      have hrow := hM.out.row
      have hlow := hM.out.low
      obtain ⟨l, hl⟩ : ∃ l, l = txtTo ⟨va, vb, vc, vd⟩ 4 := ⟨_, rfl⟩
      rw [← hl] at hrow
      have hl2 : l = txtV ⟨va, vb, vc, vd⟩ := hl
      have hpos : 0 < l.length := by rw [hl2]; simp [txtV]; omega
      obtain ⟨g, cap, rfl⟩ := Joins.ownsRow_form hrow hpos
      have hcv := run_convert_bytes_back (P := Tryd.prog) wr 67 9 5 ⟨g, 0, none⟩ cap l Tryd.underlying67 Tryd.underlying5 Tryd.underlying9 (fun i hi => by
        rw [Addr.add_lit, Nat.zero_add, World.ownsRow.cellAt hrow i (by omega), Lib.byteCells, List.getElem?_map, List.getElem?_eq_getElem hi]; rfl)
      replace hrow := Lib.hid hrow; replace hlow := Lib.hid hlow; replace hl := Lib.hid hl; replace hl2 := Lib.hid hl2; replace hM := Lib.hid hM; replace hpos := Lib.hid hpos
      go_wp2
      go_ret
      exact ⟨by rw [← hl2.out]; rfl, hlow.out⟩
end Go.Proofs.YteoihdkaoipocaaDoor

/- fleet.node: the node of a line. -/
namespace Go.Proofs.YteoihdkaoipocaaDoor
open Go.RowKit

structure Nde where
  name : ByteArray
  cap : V4
  po : Option Addr
  pn : Nat
  pc : Nat
  parts : List ByteArray
abbrev Nde.cells (x : Nde) : Array Value := #[.string x.name, .int .i64 x.cap.a, .int .i64 x.cap.b, .int .i64 x.cap.c, .int .i64 x.cap.d, .slice x.po x.pn x.pc]
abbrev Nde.val (x : Nde) : Value := .agg #[.string x.name, .int .i64 x.cap.a, .int .i64 x.cap.b, .int .i64 x.cap.c, .int .i64 x.cap.d, .slice x.po x.pn x.pc]
def Nde.zero : Nde := ⟨ByteArray.empty, V4.zero, none, 0, 0, []⟩
structure Nde.ok (w : World) (x : Nde) : Prop where
  parts : StrsAt w x.po x.pn x.parts
  ple : x.pn ≤ x.pc
theorem Nde.ok.low {w w' : World} {x : Nde} (h : x.ok w) (hb : Below w.heap.size w w') : x.ok w' := ⟨h.parts.low hb, h.ple⟩
theorem strs_none (w : World) : StrsAt w none 0 [] := ⟨rfl, by omega, fun i x h => by simp at h⟩
theorem Nde.zero_ok (w : World) : Nde.zero.ok w := ⟨strs_none w, Nat.le_refl _⟩
/-- a node as it is told -/
structure Ndv where
  name : ByteArray
  cap : V4
  parts : List ByteArray
def Nde.pl (x : Nde) : Ndv := ⟨x.name, x.cap, x.parts⟩

def words (s : ByteArray) : List ByteArray := (cutAll 32 s.data.toList).map ofL
def wrd (s : ByteArray) (k : Nat) : ByteArray := (words s).getD k ByteArray.empty
def nodeOk (s : ByteArray) : Prop := 3 ≤ (words s).length ∧ isName (wrd s 0) = true ∧ (∀ p, p ∈ (words s).drop 2 → isName p = true) ∧ (vecOf (wrd s 1)).2 = 0
instance (s : ByteArray) : Decidable (nodeOk s) := by unfold nodeOk; infer_instance
/-- the node of a line -/
def nodeOf (s : ByteArray) : Option Ndv := if nodeOk s then some ⟨wrd s 0, (vecOf (wrd s 1)).1, (words s).drop 2⟩ else none
theorem cutAll_le {x : UInt8} : ∀ {l p : List UInt8}, p ∈ cutAll x l → p.length ≤ l.length := by
  have key : ∀ (n : Nat) (l p : List UInt8), l.length ≤ n → p ∈ cutAll x l → p.length ≤ l.length := by
    intro n
    induction n with
    | zero =>
      intro l p h hp
      have : l = [] := List.length_eq_zero_iff.1 (by omega)
      subst this
      have : p = [] := by simpa [cutAll] using hp
      subst this; simp
    | succ n ih =>
      intro l p h hp
      rcases first_of x l with hc | ⟨a, r, rfl, h2⟩
      · rw [cutAll_no hc] at hp
        have : p = l := by simpa using hp
        rw [this]; exact Nat.le_refl _
      · rw [cutAll_hit h2] at hp
        simp at h
        rcases List.mem_cons.1 hp with rfl | hp
        · simp
        · have := ih r p (by omega) hp
          simp; omega
  exact fun {l p} hp => key l.length l p (Nat.le_refl _) hp
theorem cutAll_many {x : UInt8} (l : List UInt8) : (cutAll x l).length ≤ l.length + 1 := by
  induction l with
  | nil => simp [cutAll]
  | cons b l ih =>
    have := cutAll_pos x l
    unfold cutAll
    split
    · simp; omega
    · simp; omega
theorem words_le {s p : ByteArray} (h : p ∈ words s) : p.size ≤ s.size := by
  obtain ⟨l, hl, rfl⟩ := List.mem_map.1 h
  rw [ofL_size]; exact cutAll_le hl
theorem words_many (s : ByteArray) : (words s).length ≤ s.size + 1 := by
  unfold words; rw [List.length_map]; exact cutAll_many _
theorem wrd_at {s : ByteArray} {k : Nat} (h : k < (words s).length) : (words s)[k]? = some (wrd s k) := by
  unfold wrd; simp [List.getD, List.getElem?_eq_getElem h]
/-- what a line's node is -/
def NodePost (s : ByteArray) (w : World) (e : Ending) (w' : World) : Prop :=
  ∃ (x : Nde) (r : Int), e = .returned (.tuple #[x.val, .int .i64 r]) ∧ x.ok w' ∧ Below w.heap.size w w' ∧ (∀ b off, x.po = some ⟨b, off, none⟩ → w.heap.size ≤ b ∧ ∃ c, w'.heap[b]? = some (.cells c 9 (0, 0))) ∧ ((nodeOf s = none ∧ r = 50 ∧ x = Nde.zero) ∨ (nodeOf s = some x.pl ∧ r = 0))

/-- what stands behind the splitting -/
structure NdW (w : World) (s : ByteArray) (wr : World) : Prop where
  low : Below w.heap.size w wr
  mx : Mx wr
  res : wr.heap[w.heap.size]? = some (.cells Nde.zero.cells 48 (0, 0))
  row : wr.heap[w.heap.size + 1]? = some (.cells ((words s).map Value.string).toArray 9 (0, 0))
theorem NdW.below {w wr w' : World} {s : ByteArray} (h : NdW w s wr) (hb : Below wr.heap.size wr w') : NdW w s w' :=
  ⟨h.low.trans (hb.mono h.low.size), h.mx.low hb, blk_below hb h.res (blk_lt h.res), blk_below hb h.row (blk_lt h.row)⟩
theorem NdW.cell {w wr : World} {s : ByteArray} (h : NdW w s wr) {k : Nat} (hk : k < (words s).length) : wr.cell? ⟨w.heap.size + 1, k, none⟩ = some (.string (wrd s k)) := by
  rw [blk_cell h.row]; simp [wrd_at hk]

end Go.Proofs.YteoihdkaoipocaaDoor

/- A fleet in memory: its nodes' row and its map of names. -/
namespace Go.Proofs.YteoihdkaoipocaaDoor
open Go.RowKit Go.Maps

/-- things laid one behind the other -/
def flatv {α : Type} (cells : α → Array Value) (xs : List α) : List Value := xs.flatMap fun x => (cells x).toList
theorem flatv_append {α : Type} (cells : α → Array Value) (xs ys : List α) : flatv cells (xs ++ ys) = flatv cells xs ++ flatv cells ys := by simp [flatv]
theorem flatv_one {α : Type} (cells : α → Array Value) (x : α) : flatv cells [x] = (cells x).toList := by simp [flatv]
theorem flatv_get {α : Type} {cells : α → Array Value} {sz : Nat} (hsz : ∀ x, (cells x).size = sz) (xs : List α) {i j : Nat} {x : α} (hx : xs[i]? = some x) (hj : j < sz) : (flatv cells xs)[i * sz + j]? = (cells x)[j]? := by
  induction xs generalizing i with
  | nil => simp at hx
  | cons y ys ih =>
    have hy := hsz y
    rw [show flatv cells (y :: ys) = (cells y).toList ++ flatv cells ys from by simp [flatv]]
    cases i with
    | zero =>
      have e : x = y := by simpa using hx.symm
      subst e
      rw [List.getElem?_append_left (by simp; omega)]
      simp
    | succ i =>
      have hx' : ys[i]? = some x := by simpa using hx
      rw [List.getElem?_append_right (by simp [hy, Nat.add_mul]; omega)]
      have := ih hx'
      rw [show (i + 1) * sz + j - (cells y).toList.length = i * sz + j by simp [hy, Nat.add_mul]; omega, this]
theorem nde_size (x : Nde) : x.cells.size = 6 := rfl

/-- what a row of names reads as, each with its place -/
abbrev DU := DataW Unit
def keyB (s : ByteArray) : Lit := .string s.data.toList
def mapD (ns : List ByteArray) : DU := (ns.zipIdx).foldl (fun m p => m.put (keyB p.1) (.lit (.int .i64 (p.2 : Int)))) (.map [])
theorem keyB_inj {a b : ByteArray} (h : keyB a = keyB b) : a = b := by
  unfold keyB at h
  injection h with h
  exact toL_inj h
theorem keyB_lit (s : ByteArray) : WideAt.IsKeyLit (keyB s) := trivial
theorem rev_ind {α : Type} {p : List α → Prop} (h0 : p []) (h1 : ∀ l x, p l → p (l ++ [x])) : ∀ l, p l := by
  intro l
  have key : ∀ n (l : List α), l.length = n → p l := by
    intro n
    induction n with
    | zero => intro l hl; rw [List.length_eq_zero_iff.1 hl]; exact h0
    | succ n ih =>
      intro l hl
      cases h : l.reverse with
      | nil => have := congrArg List.length h; simp at this; rw [this] at hl; cases hl
      | cons x r =>
        have e : l = r.reverse ++ [x] := by rw [← List.reverse_reverse l, h]; simp
        rw [e] at hl ⊢
        exact h1 _ _ (ih _ (by simpa using hl))
  exact key _ l rfl
/-- a node's parts lie in a row of texts -/
def PartsAt (W : World) (x : Nde) : Prop := ∀ b off, x.po = some ⟨b, off, none⟩ → ∃ c, W.heap[b]? = some (.cells c 9 (0, 0))
/-- a fleet in memory -/
structure FlW (W : World) (fb mb base : Nat) (nv : Value) (xs : List Nde) : Prop where
  head : W.heap[fb]? = some (.cells #[nv, .map (some mb)] 107 (0, 0))
  row : W.ownsRow base 48 6 nv xs.length (flatv Nde.cells xs)
  map : W.ownsMap Tryd.prog 9 (plainElem (H := Unit) Tryd.prog 3) mb xs.length (mapD (xs.map Nde.name))
  ok : ∀ x, x ∈ xs → x.ok W ∧ PartsAt W x
theorem strs_keep {w w' : World} {so : Option Addr} {n : Nat} {xs : List ByteArray} (h : StrsAt w so n xs) (hsz : w.heap.size ≤ w'.heap.size) (hb : ∀ b off, so = some ⟨b, off, none⟩ → b < w.heap.size → w'.heap[b]? = w.heap[b]?) : StrsAt w' so n xs :=
  ⟨h.len, h.max, fun i x hx => by
    obtain ⟨b, off, e, hlt, hc⟩ := h.cell i x hx
    exact ⟨b, off, e, by omega, (World.cell?_of_block (a := ⟨b, off + i, none⟩) (w := w) (hb b off e hlt)).trans hc⟩⟩
theorem FlW.below {w w' : World} {fb mb base : Nat} {nv : Value} {xs : List Nde} (h : FlW w fb mb base nv xs) (hb : Below w.heap.size w w') : FlW w' fb mb base nv xs := by
  refine ⟨blk_below hb h.head (blk_lt h.head), ⟨h.row.1, ?_⟩, ?_, fun x hx => ⟨(h.ok x hx).1.low hb, fun b off e => ?_⟩⟩
  · rcases h.row.2 with h | ⟨g, cap, cur, hv, hg, hh, hr⟩
    · exact .inl h
    · exact .inr ⟨g, cap, cur, hv, hg, blk_below hb hh (blk_lt hh), hr⟩
  · exact h.map.kept (row := none) ⟨hb.os, hb.tape, hb.output, hb.size, fun k hk _ => hb.block k hk⟩ (by simp)
  · obtain ⟨c, hc⟩ := (h.ok x hx).2 b off e
    exact ⟨c, blk_below hb hc (blk_lt hc)⟩
theorem FlW.cell {W : World} {fb mb base : Nat} {nv : Value} {xs : List Nde} (h : FlW W fb mb base nv xs) {k : Nat} {x : Nde} (hx : xs[k]? = some x) : ∃ g, nv.ownBlock = some g ∧ g < W.heap.size ∧ base ≤ g ∧ ∀ j, j < 6 → W.cell? ⟨g, k * 6 + j, none⟩ = (x.cells)[j]? := by
  have hk := (List.getElem?_eq_some_iff.1 hx).1
  rcases h.row.2 with ⟨hv, h0⟩ | ⟨g, cap, cur, hv, hg, hh, hr⟩
  · have : xs.length = 0 := h0
    omega
  · subst hv
    refine ⟨g, rfl, blk_lt hh, hg, fun j hj => ?_⟩
    rw [World.ownsRow.cellAt h.row (k * 6 + j) (by
      have : (k + 1) * 6 ≤ xs.length * 6 := Nat.mul_le_mul_right _ (by omega)
      omega), flatv_get nde_size xs hx hj]
end Go.Proofs.YteoihdkaoipocaaDoor

/- (*fleet.Fleet).put: a node behind the others. -/
namespace Go.Proofs.YteoihdkaoipocaaDoor
open Go.RowKit Go.Maps

instance decBA : DecidableEq ByteArray := fun a b => decidable_of_iff (a.data.toList = b.data.toList) ⟨toL_inj, fun h => by rw [h]⟩
def memB (ns : List ByteArray) (s : ByteArray) : Bool := ns.any fun n => decide (n = s)
theorem memB_iff {ns : List ByteArray} {s : ByteArray} : memB ns s = true ↔ s ∈ ns := by
  unfold memB
  rw [List.any_eq_true]
  exact ⟨fun ⟨x, h1, h2⟩ => by rw [← of_decide_eq_true h2]; exact h1, fun h => ⟨s, h, decide_eq_true rfl⟩⟩
/-- does one text of a row stand there twice? -/
def twiceL : List ByteArray → Bool
  | [] => false
  | p :: ps => memB ps p || twiceL ps
/-- what a put answers -/
def putE (ns : List ByteArray) (m : Nat) (name : ByteArray) (parts : List ByteArray) : Int :=
  if memB ns name = true then 51 else if twiceL parts = true then 51 else if 16 ≤ m ∨ 8 < parts.length then 2 else 0
/-- what a put keeps -/
structure PutK (fb mb base lo : Nat) (w w' : World) : Prop where
  low : Below lo w w'
  same : ∀ (k : Nat) (o : Obj), w.heap[k]? = some o → k ≠ mb → k ≠ fb → (k < base ∨ ∀ c fr, o ≠ .cells c 48 fr) → w'.heap[k]? = some o
theorem zero3 (w : World) : (zeroValue 3).run Tryd.prog w = .ok (.int .i64 0) w := by kernel_rfl
theorem slice_upto_g {P : Program} {t e : TypeId} {i : TypeInfo} (hU : P.underlying t = some (.slice e)) (hi : P.info? e = some i) (ad : Addr) (len cap n : Nat) (x : Int) (hx : x = n) (hn : n ≤ cap) (w : World) :
    (Instr.slice t (.slice (some ad) len cap) none (some (.int .i64 x)) none).run P w = .ok (.slice (some ad) n cap) w := by
  subst hx
  have h1 : ∀ (y : Nat) (_ : n ≤ y) c, (Instr.sliceBound (.int .i64 (n : Int)) y c).run P w = .ok n w := fun y h c => by
    simp [Instr.sliceBound, asIntOf, h]
  simp [Instr.slice, Instr.sliceBounds, run_underlying hU, h1 cap hn, sizeOf, typeInfo, hi, Addr.add]
/-- do two of the first k texts agree? -/
def DupTo (l : List ByteArray) (k : Nat) : Prop := ∃ i j s, j < i ∧ i < k ∧ l[i]? = some s ∧ l[j]? = some s
structure PtC (base fb : Nat) (w5 : World) (X : Nde) (nv : Value) (n : Nat) (xs : List Nde) (wx : World) : Prop where
  ex : ∃ v1 w9, w9.ownsRow base 48 6 v1 (n + 1) (flatv Nde.cells xs ++ X.cells.toList) ∧ ((w5.alloc (.cells X.cells 48 (0, 0))).drew).grownBy w9 nv.ownBlock ∧ wx = w9.setCell ⟨fb, 0, none⟩ v1
structure TwC (W2 : World) (tb : Bool) (tv : Value) (wx : World) : Prop where
  tv : tv = .bool tb
  wx : wx = W2
structure LkC (W1 : World) (c : Int) (b : Bool) (cv bv : Value) (wx : World) : Prop where
  cv : cv = .int .i64 c
  bv : bv = .bool b
  wx : wx = W1.drew
end Go.Proofs.YteoihdkaoipocaaDoor

/- A range over a function that keeps a cell of its own: the statement's law, for a body that may write what lay ahead of the loop. Conditions: the iterator's contract (SeqBox), the caller's relation. -/
namespace Go.Proofs.YteoihdkaoipocaaDoor
open Go.RowKit

/-- a relation that stands when one block turns, and new ones come -/
def AbidesAt {β : Type} (b : Nat) (J : β → World → Prop) : Prop := ∀ s W W', J s W → W.grownBy W' (some b) → J s W'
/-- an iterator that turns one block of its own between the rounds -/
def SeqBox {α : Type} (F : Fence) (n : Nat) (P : Program) (g : Nat) (lb : Array Value) (encs : α → Array Value) (b : Nat) (xs : List α) (w0 : World) : Prop :=
  ∀ (l : Nat) (J Jx : List α → World → Prop) (W : World), Below w0.heap.size w0 W → AbidesAt b J → AbidesAt b Jx →
    (∀ pre x W1, J pre W1 → (pre ++ [x]) <+: xs → YieldAt F (n - 1) P l (encs x) W1 fun e W' =>
      (e = .returned (.bool true) ∧ J (pre ++ [x]) W' ∧ W'.heap[b]? = W1.heap[b]? ∧ W'.heap[0]? = W1.heap[0]?) ∨ (e = .returned (.bool false) ∧ Jx (pre ++ [x]) W')) →
    J [] W →
    CallsIn F n P g (#[.func (.yield l) #[] #[]] ++ lb) W fun e W' => (∃ v, e = .returned v) ∧ (J xs W' ∨ (∃ pre x, (pre ++ [x]) <+: xs ∧ Jx (pre ++ [x]) W'))

variable {F : Fence} {n : Nat} {P : Program}

end Go.Proofs.YteoihdkaoipocaaDoor

/- fleet.lines: the lines of a text that say something, with their numbers: the iterator's contract. -/
namespace Go.Proofs.YteoihdkaoipocaaDoor
open Go.RowKit Go.Shelf
attribute [local go_sem] Oper.semAt_some

/-- does a line say something? -/
def saysB (l : List UInt8) : Bool := match l with | [] => false | c :: _ => decide (c ≠ 35)
/-- the lines that say something, numbered behind n -/
def said : Nat → List (List UInt8) → List (Int × ByteArray)
  | _, [] => []
  | n, p :: ps => if saysB p = true then (((n : Int) + 1), ofL p) :: said (n + 1) ps else said (n + 1) ps
def linesOf (s : ByteArray) : List (Int × ByteArray) := said 0 (cutAll 10 s.data.toList)
abbrev encL (x : Int × ByteArray) : Array Value := #[.int .i64 x.1, .string x.2]
structure LiW (W0 : World) (Bt : Nat) (rest : List UInt8) (W : World) : Prop where
  box : W.heap[Bt]? = some (.cells #[.string (ofL rest)] 9 (0, 0))
  mx : Mx W
theorem Mx.of_blk {w w' : World} (h : Mx w) (hb : w'.heap[0]? = w.heap[0]?) : Mx w' := by
  obtain ⟨m, h⟩ := h
  exact ⟨m, (World.cell?_of_block (a := ⟨0, 0, none⟩) (w := w) hb).trans h⟩
end Go.Proofs.YteoihdkaoipocaaDoor

/- fleet.Read: the fleet of a text: parts. -/
namespace Go.Proofs.YteoihdkaoipocaaDoor
open Go.RowKit Go.Maps

/-- what is read of a text's lines: the nodes put so far; the first fault's error and line -/
def readTo : List Ndv → List (Int × ByteArray) → List Ndv × Int × Int
  | xs, [] => (xs, 0, 0)
  | xs, (i, l) :: ls =>
    match nodeOf l with
    | none => (xs, 50, i)
    | some v => if putE (xs.map Ndv.name) xs.length v.name v.parts = 0 then readTo (xs ++ [v]) ls else (xs, putE (xs.map Ndv.name) xs.length v.name v.parts, i)
/-- what fleet.Read answers: the nodes, the error, the line -/
def readOf (s : ByteArray) : List Ndv × Int × Int := if 4096 < s.size then ([], 2, 0) else readTo [] (linesOf s)
end Go.Proofs.YteoihdkaoipocaaDoor

/- fleet.Read: the fleet of a text: what stands in its loop. -/
namespace Go.Proofs.YteoihdkaoipocaaDoor
open Go.RowKit Go.Maps Go.Shelf

/-- a fleet in memory that tells these nodes -/
structure Flt (W : World) (fb mb base : Nat) (vs : List Ndv) : Prop where
  ex : ∃ nv xs, FlW W fb mb base nv xs ∧ xs.map Nde.pl = vs ∧ ∀ x, x ∈ xs → ∀ b off, x.po = some ⟨b, off, none⟩ → base ≤ b
theorem Flt.below {w w' : World} {fb mb base : Nat} {vs : List Ndv} (h : Flt w fb mb base vs) (hb : Below w.heap.size w w') : Flt w' fb mb base vs := by
  obtain ⟨nv, xs, h1, h2, h3⟩ := h.ex
  exact ⟨nv, xs, h1.below hb, h2, h3⟩
theorem flw_keep {w w' : World} {fb mb base : Nat} {nv : Value} {xs : List Nde} {row : Option Nat} (h : FlW w fb mb base nv xs) (hg : w.grownBy w' row) (hm : row ≠ some mb)
    (hp : ∀ x, x ∈ xs → ∀ b off, x.po = some ⟨b, off, none⟩ → base ≤ b) (key : ∀ (k : Nat) (c : Array Value) (T : TypeId) (fr : Nat × Nat), (k = fb ∨ base ≤ k) → w.heap[k]? = some (.cells c T fr) → w'.heap[k]? = some (.cells c T fr)) : FlW w' fb mb base nv xs := by
  refine ⟨key _ _ _ _ (.inl rfl) h.head, ⟨h.row.1, ?_⟩, h.map.kept hg (Ne.symm hm), fun x hx => ?_⟩
  · rcases h.row.2 with h | ⟨g, cap, cur, hv, hgb, hh, hr⟩
    · exact .inl h
    · exact .inr ⟨g, cap, cur, hv, hgb, key _ _ _ _ (.inr hgb) hh, hr⟩
  · have hk : ∀ b off, x.po = some ⟨b, off, none⟩ → ∃ c, w.heap[b]? = some (.cells c 9 (0, 0)) ∧ w'.heap[b]? = some (.cells c 9 (0, 0)) := fun b off e => by
      obtain ⟨c, hc⟩ := (h.ok x hx).2 b off e
      exact ⟨c, hc, key _ _ _ _ (.inr (hp x hx b off e)) hc⟩
    refine ⟨⟨strs_keep (h.ok x hx).1.parts hg.size fun b off e _ => ?_, (h.ok x hx).1.ple⟩, fun b off e => ?_⟩
    · obtain ⟨c, h1, h2⟩ := hk b off e
      rw [h1, h2]
    · obtain ⟨c, _, h2⟩ := hk b off e
      exact ⟨c, h2⟩

/-- what stands at a round's head -/
structure RdI (w : World) (pre : List (Int × ByteArray)) (W : World) : Prop where
  fl : Flt W (w.heap.size + 4) (w.heap.size + 3) (w.heap.size + 7) (readTo [] pre).1
  ok : (readTo [] pre).2.1 = 0
  low : Below w.heap.size w W
  mx : Mx W
  c0 : W.heap[w.heap.size]? = some (.cells #[.pointer none] 39 (0, 0))
  c1 : W.heap[w.heap.size + 1]? = some (.cells #[.int .i64 0] 29 (0, 0))
  c2 : W.heap[w.heap.size + 2]? = some (.cells #[.int .i64 0] 3 (0, 0))
  fx : W.heap[w.heap.size + 5]? = some (.cells #[.pointer (some ⟨w.heap.size + 4, 0, none⟩)] 39 (0, 0))
  sz : w.heap.size + 7 ≤ W.heap.size
/-- what stands where a round has stopped -/
structure RdX (w : World) (pre : List (Int × ByteArray)) (W : World) : Prop where
  low : Below w.heap.size w W
  bad : (readTo [] pre).2.1 ≠ 0
  c0 : W.heap[w.heap.size]? = some (.cells #[.pointer none] 39 (0, 0))
  c1 : W.heap[w.heap.size + 1]? = some (.cells #[.int .i64 (readTo [] pre).2.1] 29 (0, 0))
  c2 : W.heap[w.heap.size + 2]? = some (.cells #[.int .i64 (readTo [] pre).2.2] 3 (0, 0))
  sz : w.heap.size + 7 ≤ W.heap.size
/-- which block may turn -/
def RdR (w W : World) (row : Option Nat) : Prop := ∀ r, row = some r → r = w.heap.size + 6 ∨ (w.heap.size + 7 ≤ r ∧ ∃ o : Obj, W.heap[r]? = some o ∧ o.isCells = false)
theorem rd_key {w W W' : World} {row : Option Nat} (hg : W.grownBy W' row) (hr : RdR w W row) {k : Nat} {c : Array Value} {T : TypeId} {fr : Nat × Nat} (hk : k ≠ w.heap.size + 6) (h : W.heap[k]? = some (.cells c T fr)) : W'.heap[k]? = some (.cells c T fr) :=
  (hg.block k (blk_lt h) (fun e => by
    rcases hr k e.symm with e | ⟨_, o, ho, hc⟩
    · exact hk e
    · rw [h] at ho; cases ho; simp [Obj.isCells] at hc)).trans h
theorem rd_low {w W W' : World} {row : Option Nat} (hg : W.grownBy W' row) (hr : RdR w W row) (h : Below w.heap.size w W) : Below w.heap.size w W' :=
  h.grown hg h.size (fun k e => by rcases hr k e with e | ⟨e, _⟩ <;> omega)
theorem RdI.grown {w W W' : World} {pre : List (Int × ByteArray)} {row : Option Nat} (h : RdI w pre W) (hg : W.grownBy W' row) (hr : RdR w W row) : RdI w pre W' := by
  obtain ⟨nv, xs, h1, h2, h3⟩ := h.fl.ex
  refine ⟨⟨nv, xs, flw_keep h1 hg (fun e => ?_) h3 (fun k c T fr hk hh => rd_key hg hr (by omega) hh), h2, h3⟩, h.ok, rd_low hg hr h.low, ?_, rd_key hg hr (by omega) h.c0, rd_key hg hr (by omega) h.c1, rd_key hg hr (by omega) h.c2, rd_key hg hr (by omega) h.fx, Nat.le_trans h.sz hg.size⟩
  · rcases hr _ e with e | ⟨e, _⟩ <;> omega
  · refine h.mx.of_blk (hg.block 0 (by have := h.sz; omega) (fun e => ?_))
    rcases hr _ e.symm with e | ⟨e, _⟩ <;> omega
theorem RdX.grown {w W W' : World} {pre : List (Int × ByteArray)} {row : Option Nat} (h : RdX w pre W) (hg : W.grownBy W' row) (hr : RdR w W row) : RdX w pre W' :=
  ⟨rd_low hg hr h.low, h.bad, rd_key hg hr (by omega) h.c0, rd_key hg hr (by omega) h.c1, rd_key hg hr (by omega) h.c2, Nat.le_trans h.sz hg.size⟩
theorem RdI.below {w W W' : World} {pre : List (Int × ByteArray)} (h : RdI w pre W) (hb : Below W.heap.size W W') : RdI w pre W' :=
  ⟨h.fl.below hb, h.ok, h.low.trans (hb.mono h.low.size), h.mx.low hb, blk_below hb h.c0 (blk_lt h.c0), blk_below hb h.c1 (blk_lt h.c1), blk_below hb h.c2 (blk_lt h.c2), blk_below hb h.fx (blk_lt h.fx), Nat.le_trans h.sz hb.size⟩
theorem PutK.keeps {fb mb base lo B : Nat} {W W' : World} (h : PutK fb mb base lo W W') (hf : fb < B) (hm : mb < B) (hs : W.heap.size ≤ W'.heap.size) : KeepsFrom B W W' :=
  ⟨hs, fun k o hk hh ho => h.same k o hh (by omega) (by omega) (.inr fun c fr e => by rw [e] at ho; simp [Obj.isCells] at ho)⟩
theorem PutK.blk {fb mb base lo k : Nat} {W W' : World} (h : PutK fb mb base lo W W') (hk : k < W.heap.size) (hf : k ≠ fb) (hm : k ≠ mb) (hb : k < base) : W'.heap[k]? = W.heap[k]? := by
  obtain ⟨o, ho⟩ : ∃ o, W.heap[k]? = some o := ⟨_, Array.getElem?_eq_getElem hk⟩
  rw [ho]
  exact h.same k o ho hm hf (.inl hb)
end Go.Proofs.YteoihdkaoipocaaDoor

/- fleet.Read: the fleet of a text: what its stores and its puts leave. -/
namespace Go.Proofs.YteoihdkaoipocaaDoor
open Go.RowKit Go.Maps Go.Shelf

/-- what is known of a line's node -/
structure NdvOk (v : Ndv) : Prop where
  name : isName v.name = true
  parts : ∀ p, p ∈ v.parts → isName p = true
  one : 1 ≤ v.parts.length
  cap : v.cap.right = true
theorem isName_le {s : ByteArray} (h : isName s = true) : s.size ≤ 16 := by
  simp only [isName, Bool.and_eq_true, decide_eq_true_eq] at h
  exact h.1.2
/-- three results stored -/
structure S3 (R : Nat) (W W' : World) (p : Value) (e i : Int) : Prop where
  size : W'.heap.size = W.heap.size
  c0 : W'.heap[R]? = some (.cells #[p] 39 (0, 0))
  c1 : W'.heap[R + 1]? = some (.cells #[.int .i64 e] 29 (0, 0))
  c2 : W'.heap[R + 2]? = some (.cells #[.int .i64 i] 3 (0, 0))
  other : ∀ (k : Nat) (o : Obj), W.heap[k]? = some o → k ≠ R → k ≠ R + 1 → k ≠ R + 2 → W'.heap[k]? = some o
  low : ∀ w, Below R w W → Below R w W'
  back : ∀ (k : Nat), k ≠ R → k ≠ R + 1 → k ≠ R + 2 → W'.heap[k]? = W.heap[k]?
theorem heap_set_other {W : World} {b o k : Nat} {v : Value} (h : k ≠ b) : (W.setCell ⟨b, o, none⟩ v).heap[k]? = W.heap[k]? := Below.heap_setCell _ _ _ _ h
theorem Flt.other {W W' : World} {fb mb base : Nat} {vs : List Ndv} (h : Flt W fb mb base vs) (hsz : W.heap.size ≤ W'.heap.size) (key : ∀ (k : Nat) (o : Obj), W.heap[k]? = some o → k = fb ∨ k = mb ∨ (base ≤ k ∧ o.isCells = true) → W'.heap[k]? = some o) : Flt W' fb mb base vs := by
  obtain ⟨nv, xs, h1, h2, h3⟩ := h.ex
  refine ⟨nv, xs, ⟨key _ _ h1.head (.inl rfl), ⟨h1.row.1, ?_⟩, ?_, fun x hx => ?_⟩, h2, h3⟩
  · rcases h1.row.2 with h | ⟨g, cap, cur, hv, hgb, hh, hr⟩
    · exact .inl h
    · exact .inr ⟨g, cap, cur, hv, hgb, key _ _ hh (.inr (.inr ⟨hgb, rfl⟩)), hr⟩
  · obtain ⟨es, clock, hb, hr⟩ := h1.map
    exact ⟨es, clock, key _ _ hb (.inr (.inl rfl)), hr⟩
  · have hk : ∀ b off, x.po = some ⟨b, off, none⟩ → ∃ c, W.heap[b]? = some (.cells c 9 (0, 0)) ∧ W'.heap[b]? = some (.cells c 9 (0, 0)) := fun b off e => by
      obtain ⟨c, hc⟩ := (h1.ok x hx).2 b off e
      exact ⟨c, hc, key _ _ hc (.inr (.inr ⟨h3 x hx b off e, rfl⟩))⟩
    refine ⟨⟨strs_keep (h1.ok x hx).1.parts hsz fun b off e _ => ?_, (h1.ok x hx).1.ple⟩, fun b off e => ?_⟩
    · obtain ⟨c, h1, h2⟩ := hk b off e
      rw [h1, h2]
    · obtain ⟨c, _, h2⟩ := hk b off e
      exact ⟨c, h2⟩
end Go.Proofs.YteoihdkaoipocaaDoor

/- strings.Builder at this program: copyCheck, WriteString (after the shelf's own proofs: the program's copyCheck has a refused end, so the shelf's laying does not fit). -/
namespace Go.Proofs.YteoihdkaoipocaaDoor
open Go.RowKit Go.Shelf

theorem sizeBuilder : (Tryd.prog.info? 134).map (·.size) = some 2 := by kernel_rfl
theorem liesBuilder : liesAt Tryd.prog Tryd.prog.depth 134 (2 / Tryd.prog.cellsOf 134) 0 134 1 = true := by kernel_rfl
end Go.Proofs.YteoihdkaoipocaaDoor

/- fleet.Read: the fleet of a text. -/
namespace Go.Proofs.YteoihdkaoipocaaDoor
open Go.RowKit Go.Maps Go.Shelf
attribute [local go_sem] Oper.semAt_some

/-- the world ahead of the loop -/
def rdW (w : World) (s : ByteArray) : World :=
  ((((((w.alloc (.cells #[.pointer none] 39 (0, 0))).alloc (.cells #[.int .i64 0] 29 (0, 0))).alloc (.cells #[.int .i64 0] 3 (0, 0))).alloc (.map #[] 0)).alloc (.cells #[.slice none 0 0, .map (some (w.heap.size + 3))] 107 (0, 0))).alloc (.cells #[.pointer (some ⟨w.heap.size + 4, 0, none⟩)] 39 (0, 0))).alloc (.cells #[.string s] 9 (0, 0))
/-- what fleet.Read answers -/
def ReadPost (s : ByteArray) (w : World) (e : Ending) (w' : World) : Prop :=
  ∃ p, e = .returned (.tuple #[.pointer p, .int .i64 (readOf s).2.1, .int .i64 (readOf s).2.2]) ∧ Below w.heap.size w w' ∧
    (((readOf s).2.1 ≠ 0 ∧ p = none) ∨ ((readOf s).2.1 = 0 ∧ p = some ⟨w.heap.size + 4, 0, none⟩ ∧ Flt w' (w.heap.size + 4) (w.heap.size + 3) (w.heap.size + 7) (readOf s).1))
end Go.Proofs.YteoihdkaoipocaaDoor

/- What a fleet answers, plain: places of a part, what its nodes have, the parts. -/
namespace Go.Proofs.YteoihdkaoipocaaDoor
open Go.RowKit Go.Maps Go.Shelf

/-- where a part's nodes stand -/
def inFrom : Nat → List Ndv → ByteArray → List Int
  | _, [], _ => []
  | k, v :: vs, p => if memB v.parts p = true then (k : Int) :: inFrom (k + 1) vs p else inFrom (k + 1) vs p
def inOf (vs : List Ndv) (p : ByteArray) : List Int := inFrom 0 vs p
theorem take_step {α : Type} {l : List α} {k : Nat} {x : α} (h : l[k]? = some x) : l.take (k + 1) = l.take k ++ [x] := by
  rw [List.take_add_one, h]; rfl
/-- what a part's nodes have -/
def addV (a b : V4) : V4 := ⟨a.a + b.a, a.b + b.b, a.c + b.c, a.d + b.d⟩
def counts (v : Ndv) (p : ByteArray) : Bool := p.toList.isEmpty || memB v.parts p
def totOf (vs : List Ndv) (p : ByteArray) : V4 := vs.foldl (fun a v => if counts v p = true then addV a v.cap else a) V4.zero
/-- may an amount be? -/
structure CapOk (v : V4) : Prop where
  a0 : 0 ≤ v.a
  a1 : v.a ≤ 1073741824
  b0 : 0 ≤ v.b
  b1 : v.b ≤ 1073741824
  c0 : 0 ≤ v.c
  c1 : v.c ≤ 1073741824
  d0 : 0 ≤ v.d
  d1 : v.d ≤ 1073741824
structure UpTo (v : V4) (n : Nat) : Prop where
  a0 : 0 ≤ v.a
  a1 : v.a ≤ 1073741824 * n
  b0 : 0 ≤ v.b
  b1 : v.b ≤ 1073741824 * n
  c0 : 0 ≤ v.c
  c1 : v.c ≤ 1073741824 * n
  d0 : 0 ≤ v.d
  d1 : v.d ≤ 1073741824 * n
/-- the parts -/
def rawParts (vs : List Ndv) : List ByteArray := vs.flatMap Ndv.parts
def partsOf (vs : List Ndv) : List (List UInt8) := Lib.compact (((rawParts vs).map (·.data.toList)).mergeSort fun x y => decide (x ≤ y))
end Go.Proofs.YteoihdkaoipocaaDoor

/- (*fleet.Fleet).Len, Index. -/
namespace Go.Proofs.YteoihdkaoipocaaDoor
open Go.RowKit Go.Maps

end Go.Proofs.YteoihdkaoipocaaDoor

/- (*fleet.Fleet).In: the places of a part's nodes. -/
namespace Go.Proofs.YteoihdkaoipocaaDoor
open Go.RowKit Go.Maps Go.Shelf

def intsV (xs : List Int) : List Value := xs.map fun n => .int .i64 n
/-- a row of numbers of one's own -/
structure OwnI (w : World) (B : Nat) (v : Value) (xs : List Int) : Prop where
  row : w.ownsRow B 3 1 v xs.length (intsV xs)
def FinPost (vs : List Ndv) (p : ByteArray) (w : World) (e : Ending) (w' : World) : Prop := ∃ v, e = .returned v ∧ OwnI w' w.heap.size v (inOf vs p) ∧ Below w.heap.size w w'
theorem info3 : (Tryd.prog.info? 3).map (fun i => (i.zero, i.size, i.bytes)) = some (some (.int .i64 0), 1, 8) := by kernel_rfl
theorem one_new (w : World) (n : Int) : ∀ j u, ([.int .i64 n] : List Value)[j]? = some u → (w.alloc (.cells #[.int .i64 n] 3 (0, 0))).cell? ((⟨w.heap.size, 0, none⟩ : Addr).add j) = some u := by
  intro j u hu
  match j, hu with
  | 0, hu =>
    have := blk_cell (blk_new w (.cells #[.int .i64 n] 3 (0, 0))) 0
    simp at hu; subst hu
    exact this
  | j + 1, hu => simp at hu
end Go.Proofs.YteoihdkaoipocaaDoor

/- (*fleet.Fleet).Parts: the partitions, sorted, each once. -/
namespace Go.Proofs.YteoihdkaoipocaaDoor
open Go.RowKit Go.Maps Go.Shelf Go.Sort

def txts (xs : List ByteArray) : List Value := xs.map Value.string
structure OwnT (w : World) (B : Nat) (v : Value) (xs : List ByteArray) : Prop where
  row : w.ownsRow B 9 1 v xs.length (txts xs)
def FpaPost (vs : List Ndv) (w : World) (e : Ending) (w' : World) : Prop :=
  ∃ v, e = .returned v ∧ OwnT w' w.heap.size v ((partsOf vs).map ofL) ∧ Below w.heap.size w w'
theorem own_empty (w : World) (B : Nat) : OwnT w B (.slice none 0 0) [] := ⟨rfl, .inl ⟨rfl, rfl⟩⟩
end Go.Proofs.YteoihdkaoipocaaDoor

/- (*fleet.Fleet).Total: what a partition's nodes have. -/
namespace Go.Proofs.YteoihdkaoipocaaDoor
open Go.RowKit Go.Maps Go.Shelf

structure TtW (w : World) (v : V4) (W : World) : Prop where
  low : Below w.heap.size w W
  r0 : W.heap[w.heap.size]? = some (.cells V4.zero.cells 25 (0, 0))
  r1 : W.heap[w.heap.size + 1]? = some (.cells v.cells 25 (0, 0))
theorem TtW.drew {w W : World} {v : V4} (h : TtW w v W) : TtW w v W.drew := ⟨h.low.drew, h.r0, h.r1⟩
theorem TtW.set {w W : World} {v v' : V4} (h : TtW w v W) (o : Nat) (x : Value) (e : v.cells.setIfInBounds o x = v'.cells) : TtW w v' (W.setCell ⟨w.heap.size + 1, o, none⟩ x) :=
  ⟨h.low.setCell (Nat.le_succ _) _, blk_set_other (Nat.ne_of_lt (Nat.lt_succ_self _)) _ h.r0, by rw [blk_set h.r1, e]⟩
/-- the first k are added -/
def mixV (u c : V4) (k : Nat) : V4 := ⟨if 0 < k then u.a + c.a else u.a, if 1 < k then u.b + c.b else u.b, if 2 < k then u.c + c.c else u.c, if 3 < k then u.d + c.d else u.d⟩
def TotPost (vs : List Ndv) (p : ByteArray) (w : World) (e : Ending) (w' : World) : Prop := e = .returned (totOf vs p).val ∧ Below w.heap.size w w'
end Go.Proofs.YteoihdkaoipocaaDoor

/- What a read fleet is, and what its methods answer. -/
namespace Go.Proofs.YteoihdkaoipocaaDoor
open Go.RowKit Go.Maps Go.Shelf

structure NdvAll (v : Ndv) : Prop where
  ok : NdvOk v
  few : v.parts.length ≤ 8
  once : twiceL v.parts = false
structure FltOk (vs : List Ndv) : Prop where
  len : vs.length ≤ 16
  all : ∀ v, v ∈ vs → NdvAll v
  nodup : (vs.map Ndv.name).Nodup
theorem capOk_right {v : V4} (h : v.right = true) : CapOk v := by
  simp only [V4.right, okn, Bool.and_eq_true, decide_eq_true_eq] at h
  exact ⟨h.1.1.1.1, h.1.1.1.2, h.1.1.2.1, h.1.1.2.2, h.1.2.1, h.1.2.2, h.2.1, h.2.2⟩
/-- the place of a text in a row; -1: it isn't there -/
def idxN : List ByteArray → ByteArray → Nat → Int
  | [], _, _ => -1
  | n :: ns, s, k => if n = s then (k : Int) else idxN ns s (k + 1)
end Go.Proofs.YteoihdkaoipocaaDoor

/- (*fleet.Fleet).Text: the fleet's text. -/
namespace Go.Proofs.YteoihdkaoipocaaDoor
open Go.RowKit Go.Maps Go.Shelf

def joinP (ps : List ByteArray) : List UInt8 := Lib.join (ps.map (·.data.toList)) [32]
/-- a node's line -/
def lineV (v : Ndv) : List UInt8 := v.name.data.toList ++ [32] ++ txtV v.cap ++ [32] ++ joinP v.parts ++ [10]
def textOf (vs : List Ndv) : List UInt8 := vs.flatMap lineV
theorem inter_len (sep : List UInt8) (m : Nat) : ∀ (xs : List (List UInt8)), (∀ x, x ∈ xs → x.length ≤ m) → (sep.intercalate xs).length ≤ xs.length * (m + sep.length)
  | [], _ => by simp [List.intercalate]
  | [x], h => by
    have := h x (by simp)
    simp [List.intercalate]
    omega
  | x :: y :: r, h => by
    have h1 := h x (by simp)
    have h2 := inter_len sep m (y :: r) fun z hz => h z (by simp at hz ⊢; exact .inr hz)
    have e : sep.intercalate (x :: y :: r) = x ++ sep ++ sep.intercalate (y :: r) := by simp [List.intercalate]
    rw [e, List.length_append, List.length_append, List.length_cons, Nat.add_mul]
    omega
theorem v64_cap {v : V4} (h : CapOk v) : V64 v := by
  obtain ⟨h1, h2, h3, h4, h5, h6, h7, h8⟩ := h
  exact ⟨⟨by omega, by omega⟩, ⟨by omega, by omega⟩, ⟨by omega, by omega⟩, ⟨by omega, by omega⟩⟩
theorem ofL_self (s : ByteArray) : ofL s.data.toList = s := toL_inj (by rw [ofL_toL])
structure FtW (w : World) (l : List UInt8) (W : World) : Prop where
  low : Below w.heap.size w W
  b : Lib.IsBuilder 134 5 w.heap.size w.heap.size (Lib.byteCells l) W
end Go.Proofs.YteoihdkaoipocaaDoor

/- The parts of a fleet, plain: sorted and each once, whichever way. -/
namespace Go.Proofs.YteoihdkaoipocaaDoor
open Go.RowKit

abbrev Tx := List UInt8
/-- the document's way: each is put at its place -/
def ltB (a b : ByteArray) : Bool := decide (a.data.toList < b.data.toList)
def cntB (out : List ByteArray) (p : ByteArray) : Nat := (out.takeWhile fun x => ltB x p).length
def insB (out : List ByteArray) (p : ByteArray) : List ByteArray := if memB out p = true then out else out.take (cntB out p) ++ (p :: out.drop (cntB out p))
def StrictB (out : List ByteArray) : Prop := (out.map (·.data.toList)).Pairwise (· < ·)
def refParts (l : List ByteArray) : List ByteArray := l.foldl insB []
end Go.Proofs.YteoihdkaoipocaaDoor

/- corveeref05.has, Twice, Texts; corveeref01.Same. -/
namespace Go.Proofs.YteoihdkaoipocaaDoor
open Go.RowKit Go.Maps Go.Shelf

theorem str_eq {p q : ByteArray} (h : p = q) : (p.toList == q.toList) = true := by rw [h]; simp
theorem str_ne {p q : ByteArray} (h : p ≠ q) : (p.toList == q.toList) = false := by
  simp only [beq_eq_false_iff_ne]
  intro e
  rw [Lib.toList_data, Lib.toList_data] at e
  exact h (toL_inj e)
theorem str_eqn {p q : ByteArray} (h : p = q) : (p.toList != q.toList) = false := by simp [bne, str_eq h]
theorem str_nen {p q : ByteArray} (h : p ≠ q) : (p.toList != q.toList) = true := by simp [bne, str_ne h]

def TwicePost (xs : List ByteArray) (w : World) (e : Ending) (w' : World) : Prop := e = .returned (.bool (twiceL xs)) ∧ Below w.heap.size w w'
def TextsPost (xs ys : List ByteArray) (w : World) (e : Ending) (w' : World) : Prop := e = .returned (.bool (decide (xs = ys))) ∧ Below w.heap.size w w'
end Go.Proofs.YteoihdkaoipocaaDoor

/- The document's fleet in memory; its Index, In; corveeref01.Same. -/
namespace Go.Proofs.YteoihdkaoipocaaDoor
open Go.RowKit Go.Maps Go.Shelf

structure IntsAt (w : World) (so : Option Addr) (n : Nat) (xs : List Int) : Prop where
  len : xs.length = n
  max : n ≤ 9223372036854775807
  cell : ∀ i x, xs[i]? = some x → ∃ b off, so = some ⟨b, off, none⟩ ∧ b < w.heap.size ∧ w.cell? ⟨b, off + i, none⟩ = some (.int .i64 x)
theorem IntsAt.low {w w' : World} {so : Option Addr} {n : Nat} {xs : List Int} (h : IntsAt w so n xs) (hb : Below w.heap.size w w') : IntsAt w' so n xs :=
  ⟨h.len, h.max, fun i x hx => by
    obtain ⟨b, off, e, hlt, hc⟩ := h.cell i x hx
    exact ⟨b, off, e, Nat.lt_of_lt_of_le hlt hb.size, (below_cell hb hlt).trans hc⟩⟩
theorem IntsAt.get {w : World} {so : Option Addr} {n : Nat} {xs : List Int} (h : IntsAt w so n xs) {i : Nat} (hi : i < n) : ∃ x, xs[i]? = some x := ⟨_, List.getElem?_eq_getElem (by rw [h.len]; exact hi)⟩
theorem ints_of_own {w : World} {B : Nat} {v : Value} {xs : List Int} (h : OwnI w B v xs) : ∃ so c, v = .slice so xs.length c ∧ IntsAt w so xs.length xs := by
  rcases h.row.2 with ⟨hv, h0⟩ | ⟨g, cap, cur, hv, hg, hh, hn, hm, hr⟩
  · have : xs = [] := List.length_eq_zero_iff.1 h0
    subst this
    exact ⟨none, 0, hv, rfl, by simp, fun i x hx => by simp at hx⟩
  · refine ⟨some ⟨g, 0, none⟩, cap, hv, rfl, by have : maxLen = 9223372036854775807 := rfl; omega, fun i x hx => ⟨g, 0, rfl, blk_lt hh, ?_⟩⟩
    have hi := (List.getElem?_eq_some_iff.1 hx).1
    have hrow := h.row
    rw [hv] at hrow
    rw [Nat.zero_add, World.ownsRow.cellAt hrow i (by omega), intsV, List.getElem?_map, hx]; rfl
def SameiPost (xs ys : List Int) (w : World) (e : Ending) (w' : World) : Prop := e = .returned (.bool (decide (xs = ys))) ∧ Below w.heap.size w w'
set_option maxRecDepth 100000 in
set_option maxHeartbeats 1600000 in
theorem samei_any (ao bo : Option Addr) (n m c c' : Nat) (xs ys : List Int) (w : World) (hx : IntsAt w ao n xs) (hy : IntsAt w bo m ys) : Calls Tryd.prog 68 #[.slice ao n c, .slice bo m c'] w (SameiPost xs ys w) := by
  have hlx := hx.len
  have hly := hy.len
  have hmx := hx.max
  by_cases q : n = m
  rotate_left
  · have d : ((n : Int) != (m : Int)) = true := by rw [bne_iff_ne]; omega
    have hne : decide (xs = ys) = false := decide_eq_false fun h => q (by rw [← hlx, ← hly, h])
    replace hx := Lib.hid hx; replace hy := Lib.hid hy; replace hlx := Lib.hid hlx; replace hly := Lib.hid hly; replace q := Lib.hid q; replace hne := Lib.hid hne
    go_enter Tryd.func68, Tryd.ntmps68
    go_wp2
    go_ret
    exact ⟨by rw [hne.out]; rfl, Below.refl _ _⟩
  subst q
  have d : ((n : Int) != (n : Int)) = false := by simp
  replace hx := Lib.hid hx; replace hy := Lib.hid hy; replace hlx := Lib.hid hlx; replace hly := Lib.hid hly
  go_enter Tryd.func68, Tryd.ntmps68
  go_wp2
  go_loopw [5] (fun i wr => ∃ k : Nat, i = .int .i64 k ∧ k ≤ n ∧ Hid (∀ j, j < k → xs[j]? = ys[j]?) ∧ Hid (Below w.heap.size w wr)) (fun i _ => n - (intOf i).toNat)
  case atStart => exact ⟨0, rfl, Nat.zero_le _, (fun j h => by omega), Below.refl _ _⟩
  case round =>
    obtain ⟨k, rfl, hk, hall, hB⟩ := hrel
    by_cases hc : k < n
    · have hc1 : (k : Int) < n := by omega
      have hk0 : (0 : Int) ≤ (k : Int) := by omega
      obtain ⟨y, hy1⟩ := hx.out.get hc
      obtain ⟨z, hz1⟩ := hy.out.get hc
      obtain ⟨b, off, rfl, hb, a0⟩ := hx.out.cell k y hy1
      obtain ⟨b', off', rfl, hb', a1⟩ := hy.out.cell k z hz1
      have b0 := (below_cell hB.out hb).trans a0
      have b1 := (below_cell hB.out hb').trans a1
      clear a0 a1
      by_cases q : y = z
      · have d2 : (y != z) = false := by simp [q]
        have hn : ∀ j, j < k + 1 → xs[j]? = ys[j]? := fun j hj => by
          by_cases e : j = k
          · subst e; rw [hy1, hz1, q]
          · exact hall.out j (by omega)
        replace hy1 := Lib.hid hy1; replace hz1 := Lib.hid hz1; replace q := Lib.hid q; replace hn := Lib.hid hn
        go_wp2
        go_quiet (fail)
        go_wp2
        go_roundw
        case rel => exact ⟨k + 1, by go_num, by omega, hn.out, ⟨hB.out.os, hB.out.tape, hB.out.output, hB.out.size, hB.out.block⟩⟩
        case measure => simp [intOf]; omega
      · have d2 : (y != z) = true := by simp [q]
        have hne : decide (xs = ys) = false := decide_eq_false fun h => by
          rw [h, hz1] at hy1
          exact q (Option.some.inj hy1).symm
        replace hy1 := Lib.hid hy1; replace hz1 := Lib.hid hz1; replace q := Lib.hid q; replace hne := Lib.hid hne
        go_wp2
        go_quiet (fail)
        go_wp2
        go_ret
        exact ⟨by rw [hne.out]; rfl, ⟨hB.out.os, hB.out.tape, hB.out.output, hB.out.size, hB.out.block⟩⟩
    · have hc1 : ¬ (k : Int) < n := by omega
      have he : decide (xs = ys) = true := decide_eq_true (List.ext_getElem? fun j => by
        by_cases hj : j < n
        · exact hall.out j (by omega)
        · have h1 := hlx.out
          have h2 := hly.out
          rw [List.getElem?_eq_none (by omega), List.getElem?_eq_none (by omega)])
      replace he := Lib.hid he
      go_wp2
      go_ret
      exact ⟨by rw [he.out]; rfl, hB.out⟩

/-- the document's fleet: its nodes' row -/
structure FlR (W : World) (base : Nat) (nv : Value) (xs : List Nde) : Prop where
  row : W.ownsRow base 48 6 nv xs.length (flatv Nde.cells xs)
  ok : ∀ x, x ∈ xs → x.ok W ∧ PartsAt W x
theorem FlR.below {w w' : World} {base : Nat} {nv : Value} {xs : List Nde} (h : FlR w base nv xs) (hb : Below w.heap.size w w') : FlR w' base nv xs := by
  refine ⟨⟨h.row.1, ?_⟩, fun x hx => ⟨(h.ok x hx).1.low hb, fun b off e => ?_⟩⟩
  · rcases h.row.2 with h | ⟨g, cap, cur, hv, hg, hh, hr⟩
    · exact .inl h
    · exact .inr ⟨g, cap, cur, hv, hg, blk_below hb hh (blk_lt hh), hr⟩
  · obtain ⟨c, hc⟩ := (h.ok x hx).2 b off e
    exact ⟨c, blk_below hb hc (blk_lt hc)⟩
theorem FlR.cell {W : World} {base : Nat} {nv : Value} {xs : List Nde} (h : FlR W base nv xs) {k : Nat} {x : Nde} (hx : xs[k]? = some x) : ∃ g cap, nv = .slice (some ⟨g, 0, none⟩) xs.length cap ∧ g < W.heap.size ∧ base ≤ g ∧ ∀ j, j < 6 → W.cell? ⟨g, k * 6 + j, none⟩ = (x.cells)[j]? := by
  have hk := (List.getElem?_eq_some_iff.1 hx).1
  rcases h.row.2 with ⟨hv, h0⟩ | ⟨g, cap, cur, hv, hg, hh, hr⟩
  · have : xs.length = 0 := h0
    omega
  · subst hv
    refine ⟨g, cap, rfl, blk_lt hh, hg, fun j hj => ?_⟩
    rw [World.ownsRow.cellAt h.row (k * 6 + j) (by
      have : (k + 1) * 6 ≤ xs.length * 6 := Nat.mul_le_mul_right _ (by omega)
      omega), flatv_get nde_size xs hx hj]
end Go.Proofs.YteoihdkaoipocaaDoor

/- The document's fleet: In, Total. -/
namespace Go.Proofs.YteoihdkaoipocaaDoor
open Go.RowKit Go.Maps Go.Shelf

theorem owns_mono {w : World} {base base' : Nat} {e : TypeId} {size : Nat} {v : Value} {n : Nat} {xs : List Value} (h : w.ownsRow base e size v n xs) (hb : base' ≤ base) : w.ownsRow base' e size v n xs := by
  refine ⟨h.1, ?_⟩
  rcases h.2 with h | ⟨g, cap, cur, hv, hg, hr⟩
  · exact .inl h
  · exact .inr ⟨g, cap, cur, hv, Nat.le_trans hb hg, hr⟩
structure RinW (w : World) (nv ov : Value) (zs : List Int) (W : World) : Prop where
  low : Below w.heap.size w W
  box : W.heap[w.heap.size]? = some (.cells #[nv] 44 (0, 0))
  out : OwnI W (w.heap.size + 1) ov zs
  sz : w.heap.size + 1 ≤ W.heap.size
structure RtW (w : World) (nv : Value) (v : V4) (W : World) : Prop where
  low : Below w.heap.size w W
  box : W.heap[w.heap.size]? = some (.cells #[nv] 44 (0, 0))
  r0 : W.heap[w.heap.size + 1]? = some (.cells V4.zero.cells 25 (0, 0))
  r1 : W.heap[w.heap.size + 2]? = some (.cells v.cells 25 (0, 0))
theorem RtW.set {w W : World} {nv : Value} {v v' : V4} (h : RtW w nv v W) (o : Nat) (x : Value) (e : v.cells.setIfInBounds o x = v'.cells) : RtW w nv v' (W.setCell ⟨w.heap.size + 2, o, none⟩ x) :=
  ⟨h.low.setCell (Nat.le_add_right _ _) _, blk_set_other (by omega) _ h.box, blk_set_other (by omega) _ h.r0, by rw [blk_set h.r1, e]⟩
theorem RtW.drew {w W : World} {nv : Value} {v : V4} (h : RtW w nv v W) : RtW w nv v W.drew := ⟨h.low.drew, h.box, h.r0, h.r1⟩
end Go.Proofs.YteoihdkaoipocaaDoor

/- (corveeref05.Fleet).Parts: each part is put at its place. -/
namespace Go.Proofs.YteoihdkaoipocaaDoor
open Go.RowKit Go.Maps Go.Shelf

structure RpW (w : World) (nv ov : Value) (l : List ByteArray) (W : World) : Prop where
  low : Below w.heap.size w W
  box : W.heap[w.heap.size]? = some (.cells #[nv] 44 (0, 0))
  out : OwnT W (w.heap.size + 1) ov l
  nil : l = [] → ov = .slice none 0 0
  sz : w.heap.size + 1 ≤ W.heap.size
theorem RpW.next {w W W' : World} {nv ov ov' : Value} {out out' : List ByteArray} (h : RpW w nv ov out W) (hb : Below W.heap.size W W') (ho : W'.ownsRow W.heap.size 9 1 ov' out'.length (txts out')) (hne : out' ≠ []) : RpW w nv ov' out' W' :=
  ⟨h.low.trans (hb.mono h.low.size), blk_below hb h.box (blk_lt h.box), ⟨owns_mono ho h.sz⟩, fun e => absurd e hne, Nat.le_trans h.sz hb.size⟩
end Go.Proofs.YteoihdkaoipocaaDoor

/- (*fleet.Fleet).Node; corveeref05.Nodes. -/
namespace Go.Proofs.YteoihdkaoipocaaDoor
open Go.RowKit Go.Maps Go.Shelf

theorem eqi (d : Nat) (a b : Int) (w : World) : (Op.equalIn (d + 1) 3 (.int .i64 a) (.int .i64 b)).run Tryd.prog w = .ok (a == b) w := by
  simp [Op.equalIn, run_underlying Tryd.underlying3]
theorem cells3 : Tryd.prog.cellsOf 3 = 1 := by kernel_rfl
theorem eq25d (dd : Nat) (u v : V4) (w : World) : (Op.equalIn (dd + 2) 25 u.val v.val).run Tryd.prog w = .ok (decide (u = v)) w := by
  obtain ⟨i0, hi0, hz0, hz1, hz2⟩ := info_parts info3
  show (Op.equalIn ((dd + 1) + 1) 25 u.val v.val).run Tryd.prog w = _
  rw [run_equalIn_array w (dd + 1) _ _ Tryd.underlying25 hi0, cells3]
  show (Op.eqItems (dd + 1) 3 1 _ _ [0, 1, 2, 3]).run Tryd.prog w = _
  obtain ⟨a, b, c, d⟩ := u
  obtain ⟨a', b', c', d'⟩ := v
  by_cases h1 : a = a' <;> by_cases h2 : b = b' <;> by_cases h3 : c = c' <;> by_cases h4 : d = d'
  all_goals
    simp [Op.eqItems, eqi, part, sizeOf, typeInfo, hi0, hz1, h1, h2, h3, h4]
theorem eq25 (u v : V4) (w : World) : (Op.equalIn 10000 25 u.val v.val).run Tryd.prog w = .ok (decide (u = v)) w := eq25d 9998 u v w

def NodeAt (vs : List Ndv) (i : Int) (w : World) (e : Ending) (w' : World) : Prop :=
  ∃ (x : Nde) (b : Bool), e = .returned (.tuple #[x.val, .bool b]) ∧ x.ok w' ∧ Below w.heap.size w w' ∧ (∀ bb off, x.po = some ⟨bb, off, none⟩ → w.heap.size ≤ bb ∧ ∃ c, w'.heap[bb]? = some (.cells c 9 (0, 0))) ∧
    ((b = true ∧ 0 ≤ i ∧ vs[i.toNat]? = some x.pl) ∨ (b = false ∧ x = Nde.zero ∧ (i < 0 ∨ (vs.length : Int) ≤ i)))
structure NdC (w : World) (x : Nde) (b : Nat) (W : World) : Prop where
  low : Below w.heap.size w W
  r0 : W.heap[w.heap.size]? = some (.cells Nde.zero.cells 48 (0, 0))
  r1 : W.heap[w.heap.size + 1]? = some (.cells x.cells 48 (0, 0))
/-- are two nodes the same? -/
def NodesPost (x y : Nde) (w : World) (e : Ending) (w' : World) : Prop := e = .returned (.bool (decide (x.parts = y.parts) && decide (x.name = y.name) && decide (x.cap = y.cap))) ∧ Below w.heap.size w w'
end Go.Proofs.YteoihdkaoipocaaDoor

/- corveeref03.Read: the amount of a text. -/
namespace Go.Proofs.YteoihdkaoipocaaDoor
open Go.RowKit Go.Maps Go.Shelf

def mx4 (v : V4) (k : Nat) : V4 := ⟨if 0 < k then v.a else 0, if 1 < k then v.b else 0, if 2 < k then v.c else 0, if 3 < k then v.d else 0⟩
structure RvW (w : World) (vb : Nat) (so : Option Addr) (xs : List ByteArray) (v : V4) (W : World) : Prop where
  low : Below w.heap.size w W
  gt : w.heap.size < vb
  r0 : W.heap[w.heap.size]? = some (.cells V4.zero.cells 25 (0, 0))
  r1 : W.heap[vb]? = some (.cells v.cells 25 (0, 0))
  strs : StrsAt W so 4 xs
theorem RvW.below {w W W' : World} {vb : Nat} {so : Option Addr} {xs : List ByteArray} {v : V4} (h : RvW w vb so xs v W) (hb : Below W.heap.size W W') : RvW w vb so xs v W' :=
  ⟨h.low.trans (hb.mono h.low.size), h.gt, blk_below hb h.r0 (blk_lt h.r0), blk_below hb h.r1 (blk_lt h.r1), h.strs.low hb⟩
theorem RvW.set {w W : World} {vb : Nat} {so : Option Addr} {xs : List ByteArray} {v v' : V4} (h : RvW w vb so xs v W) (o : Nat) (x : Value) (e : v.cells.setIfInBounds o x = v'.cells) (hso : ∀ b off, so = some ⟨b, off, none⟩ → b ≠ vb) : RvW w vb so xs v' (W.setCell ⟨vb, o, none⟩ x) :=
  ⟨h.low.setCell (Nat.le_of_lt h.gt) _, h.gt, blk_set_other (Nat.ne_of_lt h.gt) _ h.r0, by rw [blk_set h.r1, e], h.strs.len, h.strs.max, fun i x hx => by
    obtain ⟨b, off, e, hlt, hc⟩ := h.strs.cell i x hx
    exact ⟨b, off, e, by simpa [World.setCell] using hlt, (World.cell?_of_block (a := ⟨b, off + i, none⟩) (w := W) (heap_set_other (hso b off e))).trans hc⟩⟩
end Go.Proofs.YteoihdkaoipocaaDoor

/- corveeref05.node: the node of a line. -/
namespace Go.Proofs.YteoihdkaoipocaaDoor
open Go.RowKit Go.Maps Go.Shelf

structure RnW (w : World) (vb b : Nat) (xs : List ByteArray) (v : V4) (W : World) : Prop where
  low : Below w.heap.size w W
  r0 : W.heap[w.heap.size]? = some (.cells Nde.zero.cells 48 (0, 0))
  r1 : W.heap[vb]? = some (.cells v.cells 25 (0, 0))
  strs : StrsAt W (some ⟨b, 0, none⟩) xs.length xs
  blk : ∃ c, W.heap[b]? = some (.cells c 9 (0, 0))
theorem RnW.below {w W W' : World} {vb b : Nat} {xs : List ByteArray} {v : V4} (h : RnW w vb b xs v W) (hb : Below W.heap.size W W') : RnW w vb b xs v W' := by
  obtain ⟨c, hc⟩ := h.blk
  exact ⟨h.low.trans (hb.mono h.low.size), blk_below hb h.r0 (blk_lt h.r0), blk_below hb h.r1 (blk_lt h.r1), h.strs.low hb, c, blk_below hb hc (blk_lt hc)⟩
theorem RnW.drew {w W : World} {vb b : Nat} {xs : List ByteArray} {v : V4} (h : RnW w vb b xs v W) : RnW w vb b xs v W.drew := ⟨h.low.drew, h.r0, h.r1, ⟨h.strs.len, h.strs.max, h.strs.cell⟩, h.blk⟩
end Go.Proofs.YteoihdkaoipocaaDoor

/- corveeref05.Read: the fleet of a text. -/
namespace Go.Proofs.YteoihdkaoipocaaDoor
open Go.RowKit Go.Maps Go.Shelf

/-- the nodes read of the first k lines -/
def rdK (s : ByteArray) (k : Nat) : List Ndv × Int × Int := readTo [] (said 0 ((cutAll 10 s.data.toList).take k))
structure RrW (w : World) (b : Nat) (ls : List ByteArray) (vs : List Ndv) (nv : Value) (xs : List Nde) (W : World) : Prop where
  low : Below w.heap.size w W
  res : W.heap[w.heap.size]? = some (.cells #[.slice none 0 0] 44 (0, 0))
  f : W.heap[w.heap.size + 1]? = some (.cells #[nv] 44 (0, 0))
  row : FlR W (w.heap.size + 2) nv xs
  pls : xs.map Nde.pl = vs
  po : ∀ x, x ∈ xs → ∀ b off, x.po = some ⟨b, off, none⟩ → w.heap.size + 2 ≤ b
  strs : StrsAt W (some ⟨b, 0, none⟩) ls.length ls
  blk : ∃ c, W.heap[b]? = some (.cells c 9 (0, 0))
  bge : w.heap.size + 2 ≤ b
theorem RrW.below {w W W' : World} {b : Nat} {ls : List ByteArray} {vs : List Ndv} {nv : Value} {xs : List Nde} (h : RrW w b ls vs nv xs W) (hb : Below W.heap.size W W') : RrW w b ls vs nv xs W' := by
  obtain ⟨c, hc⟩ := h.blk
  exact ⟨h.low.trans (hb.mono h.low.size), blk_below hb h.res (blk_lt h.res), blk_below hb h.f (blk_lt h.f), h.row.below hb, h.pls, h.po, h.strs.low hb, ⟨c, blk_below hb hc (blk_lt hc)⟩, h.bge⟩
def RreadPost (s : ByteArray) (w : World) (e : Ending) (w' : World) : Prop :=
  ∃ nv xs, e = .returned (.tuple #[.agg #[nv], .int .i64 (readOf s).2.1, .int .i64 (readOf s).2.2]) ∧ Below w.heap.size w w' ∧ FlR w' w.heap.size nv xs ∧ ((readOf s).2.1 = 0 → xs.map Nde.pl = (readOf s).1)
end Go.Proofs.YteoihdkaoipocaaDoor

/- corveelaw05.same: a fleet is what the document's is. -/
namespace Go.Proofs.YteoihdkaoipocaaDoor
open Go.RowKit Go.Maps Go.Shelf

/-- the document's fleet that tells these nodes -/
structure Flr (W : World) (nv : Value) (vs : List Ndv) : Prop where
  ex : ∃ B xs, FlR W B nv xs ∧ xs.map Nde.pl = vs
theorem Flr.below {w w' : World} {nv : Value} {vs : List Ndv} (h : Flr w nv vs) (hb : Below w.heap.size w w') : Flr w' nv vs := by
  obtain ⟨B, xs, h1, h2⟩ := h.ex
  exact ⟨B, xs, h1.below hb, h2⟩
structure SmC (w W0 : World) (fb mb base : Nat) (nv : Value) (vs : List Ndv) (wx : World) : Prop where
  cur : Below W0.heap.size W0 wx
  f : Flt wx fb mb base vs
  r : Flr wx nv vs
structure SmG (w W0 : World) (fb mb base : Nat) (nv : Value) (vs : List Ndv) (gv : Value) (wx : World) : Prop where
  gv : gv = .bool false
  ok : SmC w W0 fb mb base nv vs wx
structure SmH (w W0 wr : World) (fb mb base : Nat) (nv : Value) (vs : List Ndv) (gv : Value) (wx : World) : Prop where
  gv : gv = .bool false
  ok : SmC w W0 fb mb base nv vs wx
  low : Below wr.heap.size wr wx
end Go.Proofs.YteoihdkaoipocaaDoor

/- (corveeref05.Fleet).Text. -/
namespace Go.Proofs.YteoihdkaoipocaaDoor
open Go.RowKit Go.Maps Go.Shelf

def tailP (ps : List ByteArray) : List UInt8 := ps.flatMap fun p => 32 :: p.data.toList
structure RxW (w : World) (nv : Value) (W : World) : Prop where
  low : Below w.heap.size w W
  box : W.heap[w.heap.size]? = some (.cells #[nv] 44 (0, 0))
structure RxS (W3 : World) (S : ByteArray) (sv : Value) (wx : World) : Prop where
  sv : sv = .string S
  low : Below W3.heap.size W3 wx
end Go.Proofs.YteoihdkaoipocaaDoor

/- The text of right nodes is read as these nodes: plain. -/
namespace Go.Proofs.YteoihdkaoipocaaDoor
open Go.RowKit

def digC (c : UInt8) : Prop := 48 ≤ c.toNat ∧ c.toNat ≤ 57
theorem dec_chars : ∀ (u : Nat), ∀ c, c ∈ Lib.decDigits u → digC c := by
  intro u
  induction u using Nat.strongRecOn with
  | _ u ih =>
    intro c hc
    have one : ∀ d, d < 10 → digC (UInt8.ofNat (48 + d)) := fun d hd => by
      unfold digC
      rw [UInt8.toNat_ofNat']
      omega
    rw [Lib.decDigits] at hc
    split at hc
    · next h =>
      have : c = UInt8.ofNat (48 + u) := by simpa using hc
      subst this
      exact one u h
    · next h =>
      rcases List.mem_append.1 hc with hc | hc
      · exact ih (u / 10) (by omega) c hc
      · have : c = UInt8.ofNat (48 + u % 10) := by simpa using hc
        subst this
        exact one (u % 10) (by omega)
theorem dec_ne (u : Nat) : Lib.decDigits u ≠ [] := by
  rw [Lib.decDigits]
  split <;> simp
theorem chz_app {a b : List UInt8} {k : Nat} (h : k < a.length) : chz (ofL (a ++ b)) k = chz (ofL a) k := by
  unfold chz
  rw [ofL_toL, ofL_toL, List.getD, List.getD, List.getElem?_append_left h]
theorem chz_last (a : List UInt8) (x : UInt8) : chz (ofL (a ++ [x])) a.length = (x.toNat : Int) := by
  unfold chz
  rw [ofL_toL, List.getD, List.getElem?_append_right (Nat.le_refl _)]
  simp
theorem numTo_app {a b : List UInt8} : ∀ {k : Nat}, k ≤ a.length → numTo (ofL (a ++ b)) k = numTo (ofL a) k
  | 0, _ => rfl
  | k + 1, h => by
    simp only [numTo]
    rw [numTo_app (by omega), chz_app (by omega)]
theorem digTo_all {l : List UInt8} (h : ∀ c, c ∈ l → digC c) : ∀ {k : Nat}, k ≤ l.length → digTo (ofL l) k = true
  | 0, _ => rfl
  | k + 1, hk => by
    simp only [digTo, Bool.and_eq_true]
    refine ⟨digTo_all h (by omega), ?_⟩
    rw [isDig_iff]
    have hm : l.getD k 0 ∈ l := by
      rw [List.getD, List.getElem?_eq_getElem (by omega)]
      exact List.getElem_mem _
    have := h _ hm
    unfold chz
    rw [ofL_toL]
    unfold digC at this
    omega
theorem dec_num : ∀ (u : Nat), numTo (ofL (Lib.decDigits u)) (Lib.decDigits u).length = (u : Int) := by
  intro u
  induction u using Nat.strongRecOn with
  | _ u ih =>
    by_cases h : u < 10
    · rw [Lib.decDigits, dif_pos h]
      have := chz_last [] (UInt8.ofNat (48 + u))
      simp only [List.nil_append, List.length_nil] at this
      simp only [List.length_cons, List.length_nil, numTo, this, UInt8.toNat_ofNat']
      omega
    · rw [Lib.decDigits, dif_neg h, List.length_append]
      simp only [List.length_cons, List.length_nil]
      show 10 * numTo _ (Lib.decDigits (u / 10)).length + (chz _ (Lib.decDigits (u / 10)).length - 48) = _
      rw [numTo_app (Nat.le_refl _), ih (u / 10) (by omega), chz_last, UInt8.toNat_ofNat']
      omega
theorem dec_head : ∀ (u : Nat), 0 < u → (Lib.decDigits u).getD 0 0 ≠ 48 := by
  intro u
  induction u using Nat.strongRecOn with
  | _ u ih =>
    intro hu e
    by_cases h : u < 10
    · rw [Lib.decDigits, dif_pos h] at e
      have := congrArg UInt8.toNat e
      simp [UInt8.toNat_ofNat'] at this
      omega
    · rw [Lib.decDigits, dif_neg h] at e
      refine ih (u / 10) (by omega) (by omega) ?_
      have hp := List.length_pos_iff.2 (dec_ne (u / 10))
      rw [List.getD, List.getElem?_append_left hp] at e
      exact e
theorem numOf_dec {u : Nat} (hu : u ≤ 1073741824) : numOf (ofL (Lib.decDigits u)) 10 = (u : Int) := by
  have h10 : (10 : Nat) ^ (9 + 1) = 10000000000 := by decide
  have hl : (Lib.decDigits u).length ≤ 10 := dec_len 9 u (by rw [h10]; omega)
  have hp := List.length_pos_iff.2 (dec_ne u)
  unfold numOf
  rw [ofL_size, if_neg, if_pos (digTo_all (dec_chars u) (Nat.le_refl _)), dec_num]
  rintro (h | h | ⟨h, e⟩)
  · omega
  · omega
  · have h0 : 0 < u := by
      rcases Nat.eq_zero_or_pos u with rfl | h0
      · rw [Lib.decDigits, dif_pos (by omega)] at h; simp at h
      · exact h0
    refine dec_head u h0 ?_
    unfold chz at e
    rw [ofL_toL] at e
    exact UInt8.toNat_inj.1 (by have : (48 : UInt8).toNat = 48 := rfl; omega)
theorem itoa_pos {n : Int} (h : 0 ≤ n) : Lib.itoa n = Lib.decDigits n.toNat := if_neg (by omega)
theorem itoa_chars {n : Int} (h : 0 ≤ n) : ∀ c, c ∈ Lib.itoa n → digC c := by rw [itoa_pos h]; exact dec_chars _
theorem numOf_itoa {n : Int} (h0 : 0 ≤ n) (h1 : n ≤ 1073741824) : numOf (ofL (Lib.itoa n)) 10 = n := by
  rw [itoa_pos h0, numOf_dec (by omega)]
  omega
theorem not_mem_dig {x : UInt8} {l : List UInt8} (h : ∀ c, c ∈ l → digC c) (hx : x.toNat < 48 ∨ 57 < x.toNat) : x ∉ l := fun hm => by
  have := h x hm
  unfold digC at this
  omega
theorem vecOf_txt {v : V4} (h : v.right = true) : vecOf (ofL (txtV v)) = (v, 0) := by
  obtain ⟨h1, h2, h3, h4, h5, h6, h7, h8⟩ := capOk_right h
  have n44 : ∀ {n : Int}, 0 ≤ n → (44 : UInt8) ∉ Lib.itoa n := fun hn => not_mem_dig (itoa_chars hn) (by decide)
  have e : cutAll 44 (ofL (txtV v)).data.toList = [Lib.itoa v.a, Lib.itoa v.b, Lib.itoa v.c, Lib.itoa v.d] := by
    rw [ofL_toL]
    unfold txtV
    rw [show Lib.itoa v.a ++ [44] ++ Lib.itoa v.b ++ [44] ++ Lib.itoa v.c ++ [44] ++ Lib.itoa v.d = Lib.itoa v.a ++ 44 :: (Lib.itoa v.b ++ 44 :: (Lib.itoa v.c ++ 44 :: Lib.itoa v.d)) by simp]
    rw [cutAll_hit (n44 h1), cutAll_hit (n44 h3), cutAll_hit (n44 h5), cutAll_no (n44 h7)]
  unfold vecOf
  rw [e, if_pos (show [Lib.itoa v.a, Lib.itoa v.b, Lib.itoa v.c, Lib.itoa v.d].length = 4 from rfl)]
  have e2 : vecP [Lib.itoa v.a, Lib.itoa v.b, Lib.itoa v.c, Lib.itoa v.d] = v := by
    show (⟨numOf (ofL (Lib.itoa v.a)) 10, numOf (ofL (Lib.itoa v.b)) 10, numOf (ofL (Lib.itoa v.c)) 10, numOf (ofL (Lib.itoa v.d)) 10⟩ : V4) = v
    rw [numOf_itoa h1 h2, numOf_itoa h3 h4, numOf_itoa h5 h6, numOf_itoa h7 h8]
  rw [e2]
  unfold V4.told
  rw [if_pos h]
theorem name_chars {s : ByteArray} (h : isName s = true) : ∀ c, c ∈ s.data.toList → nameCh (c.toNat : Int) = true := fun c hc => by
  simp only [isName, Bool.and_eq_true] at h
  obtain ⟨k, hk, e⟩ := List.mem_iff_getElem.1 hc
  have hs : s.data.toList.length = s.size := toL_len s
  have := nameTo_le h.2 (show k + 1 ≤ s.size by omega)
  simp only [nameTo, Bool.and_eq_true] at this
  have h2 := this.2
  unfold chz at h2
  rw [List.getD, List.getElem?_eq_getElem hk, e] at h2
  exact h2
theorem name_not {s : ByteArray} (h : isName s = true) {x : UInt8} (hx : nameCh (x.toNat : Int) = false) : x ∉ s.data.toList := fun hm => by
  have := name_chars h x hm
  rw [hx] at this
  cases this
/-- a node's line without its end -/
def bodyV (v : Ndv) : List UInt8 := v.name.data.toList ++ [32] ++ txtV v.cap ++ tailP v.parts
theorem txt_not {v : V4} (h : v.right = true) {x : UInt8} (hx : (x.toNat < 48 ∨ 57 < x.toNat) ∧ x ≠ 44) : x ∉ txtV v := by
  obtain ⟨h1, h2, h3, h4, h5, h6, h7, h8⟩ := capOk_right h
  have n : ∀ {n : Int}, 0 ≤ n → x ∉ Lib.itoa n := fun hn => not_mem_dig (itoa_chars hn) hx.1
  unfold txtV
  simp only [List.mem_append, List.mem_singleton]
  rintro ((((((h | h) | h) | h) | h) | h) | h)
  · exact n h1 h
  · exact hx.2 h
  · exact n h3 h
  · exact hx.2 h
  · exact n h5 h
  · exact hx.2 h
  · exact n h7 h
end Go.Proofs.YteoihdkaoipocaaDoor
