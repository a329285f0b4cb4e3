/- (*fleet.Fleet).Node; corveeref05.Nodes. -/
import Derived.Test.YteoihdkaoipocaaDoorRpa
import Derived.ChangeKeysEq
namespace Go.Proofs.YteoihdkaoipocaaDoor
open Go.RowKit Go.Maps Go.Shelf

theorem eqi (d : Nat) (a b : Int) (w : World) : (Op.equalIn (d + 1) 3 (.int .i64 a) (.int .i64 b)).run Tryd.prog w = .ok (a == b) w := by
  simp [Op.equalIn, run_underlying Tryd.underlying3]
theorem cells3 : Tryd.prog.cellsOf 3 = 1 := by kernel_rfl
theorem eq25d (dd : Nat) (u v : V4) (w : World) : (Op.equalIn (dd + 2) 25 u.val v.val).run Tryd.prog w = .ok (decide (u = v)) w := by
  obtain ⟨i0, hi0, hz0, hz1, hz2⟩ := info_parts info3
  show (Op.equalIn ((dd + 1) + 1) 25 u.val v.val).run Tryd.prog w = _
  rw [run_equalIn_array w (dd + 1) _ _ Tryd.underlying25 hi0, cells3]
  show (Op.eqItems (dd + 1) 3 1 _ _ [0, 1, 2, 3]).run Tryd.prog w = _
  obtain ⟨a, b, c, d⟩ := u
  obtain ⟨a', b', c', d'⟩ := v
  by_cases h1 : a = a' <;> by_cases h2 : b = b' <;> by_cases h3 : c = c' <;> by_cases h4 : d = d'
  all_goals
    simp [Op.eqItems, eqi, part, sizeOf, typeInfo, hi0, hz1, h1, h2, h3, h4]
theorem eq25 (u v : V4) (w : World) : (Op.equalIn 10000 25 u.val v.val).run Tryd.prog w = .ok (decide (u = v)) w := eq25d 9998 u v w

def NodeAt (vs : List Ndv) (i : Int) (w : World) (e : Ending) (w' : World) : Prop :=
  ∃ (x : Nde) (b : Bool), e = .returned (.tuple #[x.val, .bool b]) ∧ x.ok w' ∧ Below w.heap.size w w' ∧ (∀ bb off, x.po = some ⟨bb, off, none⟩ → w.heap.size ≤ bb ∧ ∃ c, w'.heap[bb]? = some (.cells c 9 (0, 0))) ∧
    ((b = true ∧ 0 ≤ i ∧ vs[i.toNat]? = some x.pl) ∨ (b = false ∧ x = Nde.zero ∧ (i < 0 ∨ (vs.length : Int) ≤ i)))
structure NdC (w : World) (x : Nde) (b : Nat) (W : World) : Prop where
  low : Below w.heap.size w W
  r0 : W.heap[w.heap.size]? = some (.cells Nde.zero.cells 48 (0, 0))
  r1 : W.heap[w.heap.size + 1]? = some (.cells x.cells 48 (0, 0))
set_option maxRecDepth 100000 in
set_option maxHeartbeats 800000 in
theorem node_at {w : World} {fb mb base : Nat} {vs : List Ndv} (h : Flt w fb mb base vs) (hok : FltOk vs) (i : Int) : Calls Tryd.prog 32 #[.pointer (some ⟨fb, 0, none⟩), .int .i64 i] w (NodeAt vs i w) := by
  obtain ⟨W0, hW0⟩ : ∃ W0, W0 = w.alloc (.cells Nde.zero.cells 48 (0, 0)) := ⟨_, rfl⟩
  have hb0 : Below w.heap.size w W0 := by rw [hW0]; exact (Below.refl _ _).alloc (Nat.le_refl _) _
  have hr0 : W0.heap[w.heap.size]? = some (.cells Nde.zero.cells 48 (0, 0)) := by rw [hW0]; exact blk_new _ _
  have hz0 : W0.heap.size = w.heap.size + 1 := by rw [hW0]; simp
  have hF0 := h.below hb0
  have hlc := len_flt hF0
  obtain ⟨n, hn⟩ : ∃ n, n = vs.length := ⟨_, rfl⟩
  rw [← hn] at hlc
  rw [hW0] at hlc
  have hln := hok.len
  rw [← hn] at hln
  by_cases hlo : i < 0
  · have dlo : decide (i < 0) = true := decide_eq_true hlo
    have hbad : i < 0 ∨ (vs.length : Int) ≤ i := .inl hlo
    replace hb0 := Lib.hid hb0; replace hr0 := Lib.hid hr0; replace hz0 := Lib.hid hz0; replace hF0 := Lib.hid hF0; replace hlc := Lib.hid hlc; replace hn := Lib.hid hn; replace hbad := Lib.hid hbad
    have hW0' := Lib.hid hW0
    clear hW0
    go_enter Tryd.func32, Tryd.ntmps32
    go_wp2
    refine bodyPost_ret (v := .tuple #[Nde.zero.val, .bool false]) (by simp [results, Tryd.results32, go_sem, Nde.zero, V4.zero] <;> rfl) rfl ⟨Nde.zero, false, rfl, ⟨strs_none _, Nat.le_refl _⟩, (Below.refl _ _).alloc (Nat.le_refl _) _, fun b off e => (by cases e), .inr ⟨rfl, rfl, hbad.out⟩⟩
  have dlo : decide (i < 0) = false := decide_eq_false hlo
  by_cases hhi : (n : Int) ≤ i
  · have dhi : decide ((n : Int) ≤ i) = true := decide_eq_true hhi
    have hbad : i < 0 ∨ (vs.length : Int) ≤ i := .inr (by rw [← hn]; exact hhi)
    replace hb0 := Lib.hid hb0; replace hr0 := Lib.hid hr0; replace hz0 := Lib.hid hz0; replace hF0 := Lib.hid hF0; replace hlc := Lib.hid hlc; replace hn := Lib.hid hn; replace hbad := Lib.hid hbad
    have hW0' := Lib.hid hW0
    clear hW0
    go_enter Tryd.func32, Tryd.ntmps32
    go_wp2_with fail
    refine hlc.out.mono ?_
    rintro e w1 ⟨rfl, rfl⟩
    go_wp2
    refine bodyPost_ret (v := .tuple #[Nde.zero.val, .bool false]) (by simp [results, Tryd.results32, go_sem, Nde.zero, V4.zero] <;> rfl) rfl ⟨Nde.zero, false, rfl, ⟨strs_none _, Nat.le_refl _⟩, (Below.refl _ _).alloc (Nat.le_refl _) _, fun b off e => (by cases e), .inr ⟨rfl, rfl, hbad.out⟩⟩
  have dhi : decide ((n : Int) ≤ i) = false := decide_eq_false hhi
  obtain ⟨k, rfl⟩ : ∃ k : Nat, i = k := ⟨i.toNat, by omega⟩
  have hkn : k < n := by omega
  have hkn' : (k : Int) < n := by omega
  have hk0 : (0 : Int) ≤ (k : Int) := by omega
  have dhi2 : decide (n ≤ k) = false := decide_eq_false (by omega)
  obtain ⟨nv, xs, h1, h2, h3⟩ := hF0.ex
  have hnx : n = xs.length := by rw [hn, ← h2, List.length_map]
  obtain ⟨x, hx⟩ : ∃ x, xs[k]? = some x := ⟨_, List.getElem?_eq_getElem (by omega)⟩
  obtain ⟨g, cap, rfl⟩ := Joins.ownsRow_form h1.row (by omega)
  obtain ⟨g', e1, _, _, hcell⟩ := h1.cell hx
  have e2 : g = g' := by simpa [Value.ownBlock] using e1
  subst e2
  have hvk : vs[k]? = some x.pl := by rw [← h2]; exact pl_at hx
  have hone := (hok.all x.pl (List.mem_of_getElem? hvk)).ok.one
  have hfew := (hok.all x.pl (List.mem_of_getElem? hvk)).few
  have hxo := (h1.ok x (List.mem_of_getElem? hx)).1
  obtain ⟨nm, ⟨ca, cb, cc, cd⟩, po, pn, pc, ps⟩ := x
  have hpn : ps.length = pn := hxo.parts.len
  have hone' : 1 ≤ ps.length := hone
  have hfew' : ps.length ≤ 8 := hfew
  obtain ⟨y0, hy0⟩ := hxo.parts.get (i := 0) (by show 0 < pn; omega)
  obtain ⟨b, off, e, hbl, _⟩ := hxo.parts.cell 0 y0 hy0
  have e' : po = some ⟨b, off, none⟩ := e
  subst e'
  have z0 : W0.cell? ⟨g, k * 6, none⟩ = some (.string nm) := hcell 0 (by omega)
  have z1 : W0.cell? ⟨g, k * 6 + 1, none⟩ = some (.int .i64 ca) := hcell 1 (by omega)
  have z2 : W0.cell? ⟨g, k * 6 + 2, none⟩ = some (.int .i64 cb) := hcell 2 (by omega)
  have z3 : W0.cell? ⟨g, k * 6 + 3, none⟩ = some (.int .i64 cc) := hcell 3 (by omega)
  have z4 : W0.cell? ⟨g, k * 6 + 4, none⟩ = some (.int .i64 cd) := hcell 4 (by omega)
  have z5 : W0.cell? ⟨g, k * 6 + 5, none⟩ = some (.slice (some ⟨b, off, none⟩) pn pc) := hcell 5 (by omega)
  have f0 : W0.cell? ⟨fb, 0, none⟩ = some (.slice (some ⟨g, 0, none⟩) n cap) := by rw [hnx]; exact blk_cell h1.head 0
  obtain ⟨W1, hW1⟩ : ∃ W1, W1 = W0.alloc (.cells (⟨nm, ⟨ca, cb, cc, cd⟩, some ⟨b, off, none⟩, pn, pc, ps⟩ : Nde).cells 48 (0, 0)) := ⟨_, rfl⟩
  have hb1 : Below W0.heap.size W0 W1 := by rw [hW1]; exact (Below.refl _ _).alloc (Nat.le_refl _) _
  have hq1 : W1.heap[w.heap.size + 1]? = some (.cells (⟨nm, ⟨ca, cb, cc, cd⟩, some ⟨b, off, none⟩, pn, pc, ps⟩ : Nde).cells 48 (0, 0)) := by rw [hW1]; exact blk_at _ _ hz0.symm
  have hxo1 := hxo.low hb1
  have hcl := Tryd.slices_Clone_string b off pn pc ps W1 (by omega) (by omega) fun j hj => by
    obtain ⟨b', off', e, _, hc⟩ := hxo1.parts.cell j (ps[j]'hj) (by simp [hj])
    cases e
    rw [hc]
    simp [List.getD, hj]
  rw [List.take_of_length_le (by omega)] at hcl
  have p5 : W1.cell? ⟨w.heap.size + 1, 5, none⟩ = some (.slice (some ⟨b, off, none⟩) pn pc) := blk_cell hq1 5
  replace hb0 := Lib.hid hb0; replace hr0 := Lib.hid hr0; replace hz0 := Lib.hid hz0; replace hF0 := Lib.hid hF0; replace hn := Lib.hid hn; replace hnx := Lib.hid hnx; replace hx := Lib.hid hx; replace h1 := Lib.hid h1; replace h2 := Lib.hid h2; replace h3 := Lib.hid h3; replace hvk := Lib.hid hvk; replace hone := Lib.hid hone; replace hfew := Lib.hid hfew; replace hxo := Lib.hid hxo; replace hpn := Lib.hid hpn; replace hone' := Lib.hid hone'; replace hfew' := Lib.hid hfew'; replace hy0 := Lib.hid hy0; replace hb1 := Lib.hid hb1; replace hq1 := Lib.hid hq1; replace hxo1 := Lib.hid hxo1; replace hcl := Lib.hid hcl; replace hcell := Lib.hid hcell; replace e1 := Lib.hid e1; replace hok := Lib.hid hok; replace h := Lib.hid h; replace p5 := Lib.hid p5
  rw [hW1, hW0] at hcl p5
  rw [hW0] at z0 z1 z2 z3 z4 z5 f0
  have hW0' := Lib.hid hW0
  have hW1' := Lib.hid hW1
  clear hW0 hW1
  go_enter Tryd.func32, Tryd.ntmps32
  go_wp2_with fail
  refine hlc.mono ?_
  rintro e w1 ⟨rfl, rfl⟩
  go_wp2_with fail
  refine hcl.out.mono ?_
  rintro e w3 ⟨v', rfl, hown, hne, hb3⟩
  rw [← hW0'.out, ← hW1'.out] at hown hb3
  have hpos : 0 < pn := by have := hone'.out; have := hpn.out; omega
  obtain ⟨g3, cap3, rfl⟩ := Joins.ownsRow_form hown hpos
  have hg3 := World.ownsRow.lt hown g3 rfl
  have hz1 : W1.heap.size = w.heap.size + 2 := by rw [hW1'.out, World.size_alloc, hz0.out]
  have hs3 := strs_of_own hown (by have := hfew'.out; have := hpn.out; omega)
  have hat3 := owns_at hown
  have hcap3 := owns_cap hown
  have hr3 : w3.heap[w.heap.size]? = some (.cells Nde.zero.cells 48 (0, 0)) := blk_below hb3 (blk_below hb1.out hr0.out (blk_lt hr0.out)) (by omega)
  have hq3 := blk_below hb3 hq1.out (blk_lt hq1.out)
  have hlow3 : Below w.heap.size w w3 := hb0.out.trans ((hb1.out.trans (hb3.mono hb1.out.size)).mono hb0.out.size)
  have c0 : w3.cell? ⟨w.heap.size + 1, 0, none⟩ = some (.string nm) := blk_cell hq3 0
  have c1 : w3.cell? ⟨w.heap.size + 1, 1, none⟩ = some (.int .i64 ca) := blk_cell hq3 1
  have c2 : w3.cell? ⟨w.heap.size + 1, 2, none⟩ = some (.int .i64 cb) := blk_cell hq3 2
  have c3 : w3.cell? ⟨w.heap.size + 1, 3, none⟩ = some (.int .i64 cc) := blk_cell hq3 3
  have c4 : w3.cell? ⟨w.heap.size + 1, 4, none⟩ = some (.int .i64 cd) := blk_cell hq3 4
  have c5 : w3.cell? ⟨w.heap.size + 1, 5, none⟩ = some (.slice (some ⟨b, off, none⟩) pn pc) := blk_cell hq3 5
  have fq := blk_free hq3
  have b0 : w3.cell? ⟨w.heap.size, 0, none⟩ = some (.string ByteArray.empty) := blk_cell hr3 0
  have b1 : w3.cell? ⟨w.heap.size, 1, none⟩ = some (.int .i64 0) := blk_cell hr3 1
  have b2 : w3.cell? ⟨w.heap.size, 2, none⟩ = some (.int .i64 0) := blk_cell hr3 2
  have b3 : w3.cell? ⟨w.heap.size, 3, none⟩ = some (.int .i64 0) := blk_cell hr3 3
  have b4 : w3.cell? ⟨w.heap.size, 4, none⟩ = some (.int .i64 0) := blk_cell hr3 4
  have b5 : w3.cell? ⟨w.heap.size, 5, none⟩ = some (.slice none 0 0) := blk_cell hr3 5
  have fr := blk_free hr3
  have hl3 := blk_lt hq3
  have he : ∀ v v0 v1 v2 v3 v4 v5, Below w.heap.size w (((((((w3.setCell ⟨w.heap.size + 1, 5, none⟩ v).setCell ⟨w.heap.size, 0, none⟩ v0).setCell ⟨w.heap.size, 1, none⟩ v1).setCell ⟨w.heap.size, 2, none⟩ v2).setCell ⟨w.heap.size, 3, none⟩ v3).setCell ⟨w.heap.size, 4, none⟩ v4).setCell ⟨w.heap.size, 5, none⟩ v5) := fun v v0 v1 v2 v3 v4 v5 =>
    ((((((hlow3.setCell (Nat.le_succ _) _).setCell (Nat.le_refl _) _).setCell (Nat.le_refl _) _).setCell (Nat.le_refl _) _).setCell (Nat.le_refl _) _).setCell (Nat.le_refl _) _).setCell (Nat.le_refl _) _
  have hrow : ∀ v v0 v1 v2 v3 v4 v5, (((((((w3.setCell ⟨w.heap.size + 1, 5, none⟩ v).setCell ⟨w.heap.size, 0, none⟩ v0).setCell ⟨w.heap.size, 1, none⟩ v1).setCell ⟨w.heap.size, 2, none⟩ v2).setCell ⟨w.heap.size, 3, none⟩ v3).setCell ⟨w.heap.size, 4, none⟩ v4).setCell ⟨w.heap.size, 5, none⟩ v5).heap[g3]? = w3.heap[g3]? := fun v v0 v1 v2 v3 v4 v5 => by
    have hne : g3 ≠ w.heap.size := by omega
    have hne2 : g3 ≠ w.heap.size + 1 := by omega
    rw [heap_set_other hne, heap_set_other hne, heap_set_other hne, heap_set_other hne, heap_set_other hne, heap_set_other hne, heap_set_other hne2]
  have hsz9 : ∀ v v0 v1 v2 v3 v4 v5, (((((((w3.setCell ⟨w.heap.size + 1, 5, none⟩ v).setCell ⟨w.heap.size, 0, none⟩ v0).setCell ⟨w.heap.size, 1, none⟩ v1).setCell ⟨w.heap.size, 2, none⟩ v2).setCell ⟨w.heap.size, 3, none⟩ v3).setCell ⟨w.heap.size, 4, none⟩ v4).setCell ⟨w.heap.size, 5, none⟩ v5).heap.size = w3.heap.size := fun v v0 v1 v2 v3 v4 v5 => by simp [World.setCell]
  clear z0 z1 z2 z3 z4 z5 f0
  replace hown := Lib.hid hown; replace hne := Lib.hid hne; replace hb3 := Lib.hid hb3; replace hs3 := Lib.hid hs3; replace hat3 := Lib.hid hat3; replace hr3 := Lib.hid hr3; replace hq3 := Lib.hid hq3; replace hlow3 := Lib.hid hlow3; replace he := Lib.hid he; replace hrow := Lib.hid hrow; replace hsz9 := Lib.hid hsz9; replace hz1 := Lib.hid hz1
  go_wp2
  refine bodyPost_ret (v := .tuple #[(⟨nm, ⟨ca, cb, cc, cd⟩, some ⟨g3, 0, none⟩, pn, cap3, ps⟩ : Nde).val, .bool true]) (by simp [results, Tryd.results32, go_sem, b0, b1, b2, b3, b4, b5]) rfl ?_
  have hX := hrow.out (.slice (some ⟨g3, 0, none⟩) pn cap3) (.string nm) (.int .i64 ca) (.int .i64 cb) (.int .i64 cc) (.int .i64 cd) (.slice (some ⟨g3, 0, none⟩) pn cap3)
  have hY := hsz9.out (.slice (some ⟨g3, 0, none⟩) pn cap3) (.string nm) (.int .i64 ca) (.int .i64 cb) (.int .i64 cc) (.int .i64 cd) (.slice (some ⟨g3, 0, none⟩) pn cap3)
  have hZ := he.out (.slice (some ⟨g3, 0, none⟩) pn cap3) (.string nm) (.int .i64 ca) (.int .i64 cb) (.int .i64 cc) (.int .i64 cd) (.slice (some ⟨g3, 0, none⟩) pn cap3)
  generalize ((((((w3.setCell ⟨w.heap.size + 1, 5, none⟩ (.slice (some ⟨g3, 0, none⟩) pn cap3)).setCell ⟨w.heap.size, 0, none⟩ (.string nm)).setCell ⟨w.heap.size, 1, none⟩ (.int .i64 ca)).setCell ⟨w.heap.size, 2, none⟩ (.int .i64 cb)).setCell ⟨w.heap.size, 3, none⟩ (.int .i64 cc)).setCell ⟨w.heap.size, 4, none⟩ (.int .i64 cd)).setCell ⟨w.heap.size, 5, none⟩ (.slice (some ⟨g3, 0, none⟩) pn cap3) = X at hX hY hZ ⊢
  obtain ⟨c9, hc9⟩ := hat3.out
  refine ⟨⟨nm, ⟨ca, cb, cc, cd⟩, some ⟨g3, 0, none⟩, pn, cap3, ps⟩, true, rfl, ⟨strs_keep hs3.out (Nat.le_of_eq hY.symm) fun b' off' e' _ => by cases e'; exact hX, hcap3⟩, hZ, fun b' off' e' => ?_, .inl ⟨rfl, by omega, ?_⟩⟩
  · have e2 : g3 = b' := by injection e' with e'; injection e' with e'
    subst e2
    exact ⟨by have := hz1.out; have := hg3.1; omega, c9, hX.trans hc9⟩
  · show vs[k]? = _
    rw [hvk.out]; rfl
/-- are two nodes the same? -/
def NodesPost (x y : Nde) (w : World) (e : Ending) (w' : World) : Prop := e = .returned (.bool (decide (x.parts = y.parts) && decide (x.name = y.name) && decide (x.cap = y.cap))) ∧ Below w.heap.size w w'
set_option maxRecDepth 100000 in
set_option maxHeartbeats 3200000 in
theorem nodes_any (x y : Nde) (w : World) (hx : x.ok w) (hy : y.ok w) : Calls Tryd.prog 33 #[x.val, y.val] w (NodesPost x y w) := by
  obtain ⟨W0, hW0⟩ : ∃ W0, W0 = (w.alloc (.cells x.cells 48 (0, 0))).alloc (.cells y.cells 48 (0, 0)) := ⟨_, rfl⟩
  have hb0 : Below w.heap.size w W0 := by rw [hW0]; exact ((Below.refl _ _).alloc (Nat.le_refl _) _).alloc (by simp) _
  have hx0 : W0.heap[w.heap.size]? = some (.cells x.cells 48 (0, 0)) := by rw [hW0]; exact blk_old _ (blk_new _ _)
  have hy0 : W0.heap[w.heap.size + 1]? = some (.cells y.cells 48 (0, 0)) := by rw [hW0]; exact blk_at _ _ (by simp)
  obtain ⟨nm, cp, po, pn, pc, ps⟩ := x
  obtain ⟨nm', cp', po', pn', pc', ps'⟩ := y
  have hct := texts_any po po' pn pn' pc pc' ps ps' W0 (hx.low hb0).parts (hy.low hb0).parts
  obtain ⟨q, hq⟩ : ∃ q, q = decide (ps = ps') := ⟨_, rfl⟩
  unfold TextsPost at hct
  rw [← hq] at hct
  rw [hW0] at hct
  have hW0' := Lib.hid hW0
  clear hW0
  replace hb0 := Lib.hid hb0; replace hx0 := Lib.hid hx0; replace hy0 := Lib.hid hy0; replace hct := Lib.hid hct; replace hq := Lib.hid hq; replace hx := Lib.hid hx; replace hy := Lib.hid hy
  go_enter Tryd.func33, Tryd.ntmps33
  go_wp2_with fail
  refine hct.out.mono ?_
  rintro e w1 ⟨rfl, hb1⟩
  rw [← hW0'.out] at hb1
  have hx1 := blk_below hb1 hx0.out (blk_lt hx0.out)
  have hy1 := blk_below hb1 hy0.out (blk_lt hy0.out)
  have hlow : Below w.heap.size w w1 := hb0.out.trans (hb1.mono hb0.out.size)
  have c0 : w1.cell? ⟨w.heap.size, 0, none⟩ = some (.string nm) := blk_cell hx1 0
  have c1 : w1.cell? ⟨w.heap.size, 1, none⟩ = some (.int .i64 cp.a) := blk_cell hx1 1
  have c2 : w1.cell? ⟨w.heap.size, 2, none⟩ = some (.int .i64 cp.b) := blk_cell hx1 2
  have c3 : w1.cell? ⟨w.heap.size, 3, none⟩ = some (.int .i64 cp.c) := blk_cell hx1 3
  have c4 : w1.cell? ⟨w.heap.size, 4, none⟩ = some (.int .i64 cp.d) := blk_cell hx1 4
  have d0 : w1.cell? ⟨w.heap.size + 1, 0, none⟩ = some (.string nm') := blk_cell hy1 0
  have d1 : w1.cell? ⟨w.heap.size + 1, 1, none⟩ = some (.int .i64 cp'.a) := blk_cell hy1 1
  have d2 : w1.cell? ⟨w.heap.size + 1, 2, none⟩ = some (.int .i64 cp'.b) := blk_cell hy1 2
  have d3 : w1.cell? ⟨w.heap.size + 1, 3, none⟩ = some (.int .i64 cp'.c) := blk_cell hy1 3
  have d4 : w1.cell? ⟨w.heap.size + 1, 4, none⟩ = some (.int .i64 cp'.d) := blk_cell hy1 4
  have hE := eq25 cp cp'
  cases q with
  | false =>
    have hE' := Lib.hid hE
    clear hE
    replace hx1 := Lib.hid hx1; replace hy1 := Lib.hid hy1; replace hlow := Lib.hid hlow; replace hb1 := Lib.hid hb1
    go_wp2
    go_ret
    exact ⟨by show _ = Ending.returned (.bool (decide (ps = ps') && decide (nm = nm') && decide (cp = cp'))); rw [← hq.out]; rfl, hlow.out⟩
  | true =>
    by_cases hn : nm = nm'
    · have dn := str_eq hn
      have hnd : decide (nm = nm') = true := decide_eq_true hn
      obtain ⟨qe, hqe⟩ : ∃ qe, qe = decide (cp = cp') := ⟨_, rfl⟩
      rw [← hqe] at hE
      replace hx1 := Lib.hid hx1; replace hy1 := Lib.hid hy1; replace hlow := Lib.hid hlow; replace hb1 := Lib.hid hb1; replace hn := Lib.hid hn; replace hnd := Lib.hid hnd; replace hqe := Lib.hid hqe
      go_wp2
      go_ret
      exact ⟨by show _ = Ending.returned (.bool (decide (ps = ps') && decide (nm = nm') && decide (cp = cp'))); rw [← hq.out, hnd.out, ← hqe.out]; rfl, hlow.out⟩
    · have dn := str_ne hn
      have hnd : decide (nm = nm') = false := decide_eq_false hn
      have hE' := Lib.hid hE
      clear hE
      replace hx1 := Lib.hid hx1; replace hy1 := Lib.hid hy1; replace hlow := Lib.hid hlow; replace hb1 := Lib.hid hb1; replace hn := Lib.hid hn; replace hnd := Lib.hid hnd
      go_wp2
      go_ret
      exact ⟨by show _ = Ending.returned (.bool (decide (ps = ps') && decide (nm = nm') && decide (cp = cp'))); rw [← hq.out, hnd.out]; rfl, hlow.out⟩
end Go.Proofs.YteoihdkaoipocaaDoor
