/- vec.Text: an amount as a text. -/
import Derived.Test.YteoihdkaoipocaaDoorRtx
import Derived.Test.YteoihdkaoipocaaDoorShelg
import Derived.Laws.IdiomStrings
import Derived.Laws.AppendOwnNone
namespace Go.Proofs.YteoihdkaoipocaaDoor
open Go.RowKit

/-- the library's table of powers of ten lies where it lay -/
def Tb (w : World) : Prop := Lib.TabBelow Tryd.prog w.heap.size w "internal/strconv.uint64pow10" .u64 Lib.pow10Tab
theorem tab_mono {B C : Nat} {w : World} (h : Lib.TabBelow Tryd.prog B w "internal/strconv.uint64pow10" .u64 Lib.pow10Tab) (hb : B ≤ C) : Lib.TabBelow Tryd.prog C w "internal/strconv.uint64pow10" .u64 Lib.pow10Tab := fun w' h' => h w' (h'.mono hb)
theorem Tb.low {w w' : World} (h : Tb w) (hb : Below w.heap.size w w') : Tb w' := tab_mono (Lib.TabBelow.on h hb) hb.size
/-- the text so far -/
def txtTo (v : V4) : Nat → List UInt8
  | 0 => []
  | 1 => Lib.itoa v.a
  | 2 => Lib.itoa v.a ++ [44] ++ Lib.itoa v.b
  | 3 => Lib.itoa v.a ++ [44] ++ Lib.itoa v.b ++ [44] ++ Lib.itoa v.c
  | _ => txtV v
structure VtW (w : World) (bv : Value) (l : List UInt8) (W : World) : Prop where
  low : Below w.heap.size w W
  row : W.ownsRow w.heap.size 5 1 bv l.length (Lib.byteCells l)
theorem info5 : (Tryd.prog.info? 5).map (fun i => (i.zero, i.size, i.bytes)) = some (some (.int .u8 0), 1, 1) := by kernel_rfl
theorem byteCells_app (a b : List UInt8) : Lib.byteCells (a ++ b) = Lib.byteCells a ++ Lib.byteCells b := by simp [Lib.byteCells]
theorem comma_news (w : World) : ∀ j u, ([.int .u8 44] : List Value)[j]? = some u → (w.alloc (.cells #[.int .u8 44] 5 (0, 0))).cell? ((⟨w.heap.size, 0, none⟩ : Addr).add j) = some u := by
  intro j u hu
  match j, hu with
  | 0, hu =>
    have := blk_cell (blk_new w (.cells #[.int .u8 44] 5 (0, 0))) 0
    simp at hu; subst hu
    exact this
  | j + 1, hu => simp at hu
theorem vt_index (a b c d : Int) (j : Nat) (hj : j < 4) (w : World) : (Instr.index 25 (.agg #[.int .i64 a, .int .i64 b, .int .i64 c, .int .i64 d]) (.int .i64 (j : Int))).run Tryd.prog w = .ok (.int .i64 (V4.get ⟨a, b, c, d⟩ j)) w := by
  rcases (show j = 0 ∨ j = 1 ∨ j = 2 ∨ j = 3 by omega) with rfl | rfl | rfl | rfl <;> kernel_rfl
theorem get_64 {v : V4} (h : V64 v) (j : Nat) : -9223372036854775808 ≤ v.get j ∧ v.get j ≤ 9223372036854775807 := by
  match j with
  | 0 => exact h.a
  | 1 => exact h.b
  | 2 => exact h.c
  | j + 3 => exact h.d
theorem txtTo_step (v : V4) (j : Nat) (hj : j < 4) : txtTo v (j + 1) = txtTo v j ++ (if j = 0 then [] else [44]) ++ Lib.itoa (v.get j) := by
  rcases (show j = 0 ∨ j = 1 ∨ j = 2 ∨ j = 3 by omega) with rfl | rfl | rfl | rfl
  · rfl
  · rfl
  · rfl
  · rfl
theorem txtTo_len {v : V4} (h : V64 v) (j : Nat) (hj : j ≤ 4) : (txtTo v j).length ≤ 21 * j := by
  induction j with
  | zero => simp [txtTo]
  | succ j ih =>
    rw [txtTo_step v j (by omega), List.length_append, List.length_append]
    have h1 := ih (by omega)
    have h2 := itoa_len (get_64 h j).1 (get_64 h j).2
    have h3 : (if j = 0 then ([] : List UInt8) else [44]).length ≤ 1 := by split <;> simp
    omega
set_option maxRecDepth 100000 in
set_option maxHeartbeats 1600000 in
theorem vtext_any (v : V4) (hv : V64 v) (w : World) (ht : Tb w) : Calls Tryd.prog 75 #[v.val] w fun e w' => e = .returned (.string (ofL (txtV v))) ∧ Below w.heap.size w w' := by
  obtain ⟨i5, hi5, hz5, hz51, hz52⟩ := info_parts info5
  have hst := fun j (hj : j < 4) => txtTo_step v j hj
  have hll := fun j (hj : j ≤ 4) => txtTo_len hv j hj
  have hgt := get_64 hv
  obtain ⟨va, vb, vc, vd⟩ := v
  have hW0 : VtW w (.slice none 0 0) (txtTo ⟨va, vb, vc, vd⟩ 0) (w.alloc (.cells #[.int .i64 va, .int .i64 vb, .int .i64 vc, .int .i64 vd] 25 (0, 0))) := ⟨(Below.refl _ _).alloc (Nat.le_refl _) _, rfl, .inl ⟨rfl, rfl⟩⟩
  have hst' := Lib.hid hst
  have hll' := Lib.hid hll
  have hgt' := Lib.hid hgt
  clear hst hll hgt
  replace hv := Lib.hid hv; replace ht := Lib.hid ht; replace hW0 := Lib.hid hW0
  go_enter Tryd.func75, Tryd.ntmps75
  go_wp2
  go_loopw [3, 4, 5, 7] (fun bv _ _ i wr => ∃ j : Nat, j ≤ 4 ∧ i = .int .i64 j ∧ Hid (VtW w bv (txtTo ⟨va, vb, vc, vd⟩ j) wr)) (fun _ _ _ i _ => 4 - (intOf i).toNat)
  case atStart => exact ⟨0, by omega, rfl, hW0.out⟩
  case round =>
    obtain ⟨j, hj, rfl, hM⟩ := hrel
    by_cases hc : j < 4
    · have hc1 : (j : Int) < 4 := by omega
      have hix := fun w => vt_index va vb vc vd j hc w
      obtain ⟨x, hx⟩ : ∃ x, x = V4.get ⟨va, vb, vc, vd⟩ j := ⟨_, rfl⟩
      rw [← hx] at hix
      have hxb := hgt'.out j
      rw [← hx] at hxb
      have hs := hst'.out j hc
      rw [← hx] at hs
      obtain ⟨l, hl⟩ : ∃ l, l = txtTo ⟨va, vb, vc, vd⟩ j := ⟨_, rfl⟩
      have hlb := hll'.out j hj
      rw [← hl] at hlb hs
      have hM' := hM.out
      rw [← hl] at hM'
      obtain ⟨n, hn⟩ : ∃ n, n = l.length := ⟨_, rfl⟩
      have hrow := hM'.row
      rw [← hn] at hrow hlb
      have hlow := hM'.low
      by_cases h0 : j = 0
      · subst h0
        have hcl := Tryd.strconv_AppendInt_10 w.heap.size n x hxb.1 hxb.2 u3 (Lib.byteCells l) wr hrow hlow.size (by omega) (Lib.TabBelow.on ht.out hlow)
        rw [if_pos rfl, List.append_nil] at hs
        have hix2 : ∀ w, (Instr.index 25 (.agg #[.int .i64 va, .int .i64 vb, .int .i64 vc, .int .i64 vd]) (.int .i64 0)).run Tryd.prog w = .ok (.int .i64 x) w := hix
        clear hix
        replace hx := Lib.hid hx; replace hs := Lib.hid hs; replace hl := Lib.hid hl; replace hM' := Lib.hid hM'; replace hn := Lib.hid hn; replace hrow := Lib.hid hrow; replace hlow := Lib.hid hlow; replace hcl := Lib.hid hcl; replace hxb := Lib.hid hxb; replace hM := Lib.hid hM
        go_wp2_with fail
        refine hcl.out.mono ?_
        rintro e w2 ⟨v2, rfl, hown2, hb2, _⟩
        have hW2 : VtW w v2 (txtTo ⟨va, vb, vc, vd⟩ (0 + 1)) w2 := ⟨hlow.out.trans hb2, by rw [hs.out, byteCells_app, List.length_append, ← hn.out]; exact hown2⟩
        replace hW2 := Lib.hid hW2; replace hown2 := Lib.hid hown2; replace hb2 := Lib.hid hb2
        clear hix2
        go_wp2
        go_roundw
        case rel => exact ⟨0 + 1, by omega, rfl, hW2.out⟩
        case measure => simp [intOf]
      · have hj0 : (0 : Int) < (j : Int) := by omega
        have dj : decide ((0 : Int) < (j : Int)) = true := decide_eq_true hj0
        have dj' : decide (0 < j) = true := decide_eq_true (by omega)
        rw [if_neg h0] at hs
        have hownA : (wr.alloc (.cells #[.int .u8 44] 5 (0, 0))).ownsRow w.heap.size 5 1 u3 n (Lib.byteCells l) := hrow.alloc (.cells #[.int .u8 44] 5 (0, 0))
        have hnews := comma_news wr
        have hone : ∀ u ∈ ([.int .u8 44] : List Value), u.oneCell' = true := by simp [Value.oneCell']
        have h63 := maxLen_ge (n := n) (by omega)
        have hby : (n + 1) * 1 ≤ 140737488355328 := by omega
        have hbas : w.heap.size ≤ (wr.alloc (.cells #[.int .u8 44] 5 (0, 0))).heap.size := by have := hlow.size; rw [World.size_alloc]; omega
        replace hx := Lib.hid hx; replace hs := Lib.hid hs; replace hl := Lib.hid hl; replace hM' := Lib.hid hM'; replace hn := Lib.hid hn; replace hrow := Lib.hid hrow; replace hlow := Lib.hid hlow; replace hxb := Lib.hid hxb; replace hM := Lib.hid hM; replace hownA := Lib.hid hownA; replace hnews := Lib.hid hnews; replace hone := Lib.hid hone; replace h63 := Lib.hid h63; replace hby := Lib.hid hby; replace hbas := Lib.hid hbas
        go_upto_region 7 with (at_builtin; refine wpList_append_own _ rfl _ _ 67 rfl w.heap.size 5 i5 _ 1 1 Tryd.underlying67 hi5 hz5 hz51 hz52 rfl Nat.one_pos u3 n _ rfl hownA.out ⟨wr.heap.size, 0, none⟩ 1 1 [.int .u8 44] rfl rfl hnews.out hone.out h63.out hby.out hbas.out ?_; intro v1 w9 hown9 hgrow9 _; obtain ⟨g9, cap9, rfl⟩ := Joins.ownsRow_form hown9 (Nat.succ_pos _); replace hown9 := Lib.hid hown9; replace hgrow9 := Lib.hid hgrow9)
        have hB9 : Below w.heap.size w w9 := (hlow.out.alloc hlow.out.size _).grown hgrow9.out hbas.out (fun k e => (hrow.out.lt k e).1)
        have hcl := Tryd.strconv_AppendInt_10 w.heap.size (n + 1) x hxb.out.1 hxb.out.2 (.slice (some ⟨g9, 0, none⟩) (n + 1) cap9) _ w9 hown9.out hB9.size (by omega) (Lib.TabBelow.on ht.out hB9)
        replace hB9 := Lib.hid hB9; replace hcl := Lib.hid hcl
        go_wp2_with fail
        refine hcl.out.mono ?_
        rintro e w2 ⟨v2, rfl, hown2, hb2, _⟩
        have hW2 : VtW w v2 (txtTo ⟨va, vb, vc, vd⟩ (j + 1)) w2 := ⟨hB9.out.trans hb2, by
          rw [hs.out, byteCells_app, byteCells_app, List.length_append, List.length_append, ← hn.out]
          exact hown2⟩
        replace hW2 := Lib.hid hW2; replace hown2 := Lib.hid hown2; replace hb2 := Lib.hid hb2
        clear hix
        go_wp2
        go_roundw
        case rel => exact ⟨j + 1, by omega, by go_num, hW2.out⟩
        case measure => simp [intOf]; omega
    · have hc1 : ¬ (j : Int) < 4 := by omega
      have hj4 : j = 4 := by omega
      subst hj4
      have hrow := hM.out.row
      have hlow := hM.out.low
      obtain ⟨l, hl⟩ : ∃ l, l = txtTo ⟨va, vb, vc, vd⟩ 4 := ⟨_, rfl⟩
      rw [← hl] at hrow
      have hl2 : l = txtV ⟨va, vb, vc, vd⟩ := hl
      have hpos : 0 < l.length := by rw [hl2]; simp [txtV]; omega
      obtain ⟨g, cap, rfl⟩ := Joins.ownsRow_form hrow hpos
      have hcv := run_convert_bytes_back (P := Tryd.prog) wr 67 9 5 ⟨g, 0, none⟩ cap l Tryd.underlying67 Tryd.underlying5 Tryd.underlying9 (fun i hi => by
        rw [Addr.add_lit, Nat.zero_add, World.ownsRow.cellAt hrow i (by omega), Lib.byteCells, List.getElem?_map, List.getElem?_eq_getElem hi]; rfl)
      replace hrow := Lib.hid hrow; replace hlow := Lib.hid hlow; replace hl := Lib.hid hl; replace hl2 := Lib.hid hl2; replace hM := Lib.hid hM; replace hpos := Lib.hid hpos
      go_wp2
      go_ret
      exact ⟨by rw [← hl2.out]; rfl, hlow.out⟩
end Go.Proofs.YteoihdkaoipocaaDoor
