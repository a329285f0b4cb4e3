/- The document's fleet in memory; its Index, In; corveeref01.Same. -/
import Derived.Test.YteoihdkaoipocaaDoorHst
namespace Go.Proofs.YteoihdkaoipocaaDoor
open Go.RowKit Go.Maps Go.Shelf

structure IntsAt (w : World) (so : Option Addr) (n : Nat) (xs : List Int) : Prop where
  len : xs.length = n
  max : n ≤ 9223372036854775807
  cell : ∀ i x, xs[i]? = some x → ∃ b off, so = some ⟨b, off, none⟩ ∧ b < w.heap.size ∧ w.cell? ⟨b, off + i, none⟩ = some (.int .i64 x)
theorem IntsAt.low {w w' : World} {so : Option Addr} {n : Nat} {xs : List Int} (h : IntsAt w so n xs) (hb : Below w.heap.size w w') : IntsAt w' so n xs :=
  ⟨h.len, h.max, fun i x hx => by
    obtain ⟨b, off, e, hlt, hc⟩ := h.cell i x hx
    exact ⟨b, off, e, Nat.lt_of_lt_of_le hlt hb.size, (below_cell hb hlt).trans hc⟩⟩
theorem IntsAt.get {w : World} {so : Option Addr} {n : Nat} {xs : List Int} (h : IntsAt w so n xs) {i : Nat} (hi : i < n) : ∃ x, xs[i]? = some x := ⟨_, List.getElem?_eq_getElem (by rw [h.len]; exact hi)⟩
theorem ints_of_own {w : World} {B : Nat} {v : Value} {xs : List Int} (h : OwnI w B v xs) : ∃ so c, v = .slice so xs.length c ∧ IntsAt w so xs.length xs := by
  rcases h.row.2 with ⟨hv, h0⟩ | ⟨g, cap, cur, hv, hg, hh, hn, hm, hr⟩
  · have : xs = [] := List.length_eq_zero_iff.1 h0
    subst this
    exact ⟨none, 0, hv, rfl, by simp, fun i x hx => by simp at hx⟩
  · refine ⟨some ⟨g, 0, none⟩, cap, hv, rfl, by have : maxLen = 9223372036854775807 := rfl; omega, fun i x hx => ⟨g, 0, rfl, blk_lt hh, ?_⟩⟩
    have hi := (List.getElem?_eq_some_iff.1 hx).1
    have hrow := h.row
    rw [hv] at hrow
    rw [Nat.zero_add, World.ownsRow.cellAt hrow i (by omega), intsV, List.getElem?_map, hx]; rfl
theorem strs_of_ownT {w : World} {B : Nat} {v : Value} {xs : List ByteArray} (h : OwnT w B v xs) : ∃ so c, v = .slice so xs.length c ∧ StrsAt w so xs.length xs := by
  rcases h.row.2 with ⟨hv, h0⟩ | ⟨g, cap, cur, hv, hg, hh, hn, hm, hr⟩
  · have : xs = [] := List.length_eq_zero_iff.1 h0
    subst this
    exact ⟨none, 0, hv, strs_none w⟩
  · refine ⟨some ⟨g, 0, none⟩, cap, hv, ?_⟩
    have hrow := h.row
    rw [hv] at hrow
    exact strs_of_own hrow (by have : maxLen = 9223372036854775807 := rfl; omega)

def SameiPost (xs ys : List Int) (w : World) (e : Ending) (w' : World) : Prop := e = .returned (.bool (decide (xs = ys))) ∧ Below w.heap.size w w'
set_option maxRecDepth 100000 in
set_option maxHeartbeats 1600000 in
theorem samei_any (ao bo : Option Addr) (n m c c' : Nat) (xs ys : List Int) (w : World) (hx : IntsAt w ao n xs) (hy : IntsAt w bo m ys) : Calls Tryd.prog 68 #[.slice ao n c, .slice bo m c'] w (SameiPost xs ys w) := by
  have hlx := hx.len
  have hly := hy.len
  have hmx := hx.max
  by_cases q : n = m
  rotate_left
  · have d : ((n : Int) != (m : Int)) = true := by rw [bne_iff_ne]; omega
    have hne : decide (xs = ys) = false := decide_eq_false fun h => q (by rw [← hlx, ← hly, h])
    replace hx := Lib.hid hx; replace hy := Lib.hid hy; replace hlx := Lib.hid hlx; replace hly := Lib.hid hly; replace q := Lib.hid q; replace hne := Lib.hid hne
    go_enter Tryd.func68, Tryd.ntmps68
    go_wp2
    go_ret
    exact ⟨by rw [hne.out]; rfl, Below.refl _ _⟩
  subst q
  have d : ((n : Int) != (n : Int)) = false := by simp
  replace hx := Lib.hid hx; replace hy := Lib.hid hy; replace hlx := Lib.hid hlx; replace hly := Lib.hid hly
  go_enter Tryd.func68, Tryd.ntmps68
  go_wp2
  go_loopw [5] (fun i wr => ∃ k : Nat, i = .int .i64 k ∧ k ≤ n ∧ Hid (∀ j, j < k → xs[j]? = ys[j]?) ∧ Hid (Below w.heap.size w wr)) (fun i _ => n - (intOf i).toNat)
  case atStart => exact ⟨0, rfl, Nat.zero_le _, (fun j h => by omega), Below.refl _ _⟩
  case round =>
    obtain ⟨k, rfl, hk, hall, hB⟩ := hrel
    by_cases hc : k < n
    · have hc1 : (k : Int) < n := by omega
      have hk0 : (0 : Int) ≤ (k : Int) := by omega
      obtain ⟨y, hy1⟩ := hx.out.get hc
      obtain ⟨z, hz1⟩ := hy.out.get hc
      obtain ⟨b, off, rfl, hb, a0⟩ := hx.out.cell k y hy1
      obtain ⟨b', off', rfl, hb', a1⟩ := hy.out.cell k z hz1
      have b0 := (below_cell hB.out hb).trans a0
      have b1 := (below_cell hB.out hb').trans a1
      clear a0 a1
      by_cases q : y = z
      · have d2 : (y != z) = false := by simp [q]
        have hn : ∀ j, j < k + 1 → xs[j]? = ys[j]? := fun j hj => by
          by_cases e : j = k
          · subst e; rw [hy1, hz1, q]
          · exact hall.out j (by omega)
        replace hy1 := Lib.hid hy1; replace hz1 := Lib.hid hz1; replace q := Lib.hid q; replace hn := Lib.hid hn
        go_wp2
        go_quiet (fail)
        go_wp2
        go_roundw
        case rel => exact ⟨k + 1, by go_num, by omega, hn.out, ⟨hB.out.os, hB.out.tape, hB.out.output, hB.out.size, hB.out.block⟩⟩
        case measure => simp [intOf]; omega
      · have d2 : (y != z) = true := by simp [q]
        have hne : decide (xs = ys) = false := decide_eq_false fun h => by
          rw [h, hz1] at hy1
          exact q (Option.some.inj hy1).symm
        replace hy1 := Lib.hid hy1; replace hz1 := Lib.hid hz1; replace q := Lib.hid q; replace hne := Lib.hid hne
        go_wp2
        go_quiet (fail)
        go_wp2
        go_ret
        exact ⟨by rw [hne.out]; rfl, ⟨hB.out.os, hB.out.tape, hB.out.output, hB.out.size, hB.out.block⟩⟩
    · have hc1 : ¬ (k : Int) < n := by omega
      have he : decide (xs = ys) = true := decide_eq_true (List.ext_getElem? fun j => by
        by_cases hj : j < n
        · exact hall.out j (by omega)
        · have h1 := hlx.out
          have h2 := hly.out
          rw [List.getElem?_eq_none (by omega), List.getElem?_eq_none (by omega)])
      replace he := Lib.hid he
      go_wp2
      go_ret
      exact ⟨by rw [he.out]; rfl, hB.out⟩

/-- the document's fleet: its nodes' row -/
structure FlR (W : World) (base : Nat) (nv : Value) (xs : List Nde) : Prop where
  row : W.ownsRow base 48 6 nv xs.length (flatv Nde.cells xs)
  ok : ∀ x, x ∈ xs → x.ok W ∧ PartsAt W x
theorem FlR.below {w w' : World} {base : Nat} {nv : Value} {xs : List Nde} (h : FlR w base nv xs) (hb : Below w.heap.size w w') : FlR w' base nv xs := by
  refine ⟨⟨h.row.1, ?_⟩, fun x hx => ⟨(h.ok x hx).1.low hb, fun b off e => ?_⟩⟩
  · rcases h.row.2 with h | ⟨g, cap, cur, hv, hg, hh, hr⟩
    · exact .inl h
    · exact .inr ⟨g, cap, cur, hv, hg, blk_below hb hh (blk_lt hh), hr⟩
  · obtain ⟨c, hc⟩ := (h.ok x hx).2 b off e
    exact ⟨c, blk_below hb hc (blk_lt hc)⟩
theorem FlR.cell {W : World} {base : Nat} {nv : Value} {xs : List Nde} (h : FlR W base nv xs) {k : Nat} {x : Nde} (hx : xs[k]? = some x) : ∃ g cap, nv = .slice (some ⟨g, 0, none⟩) xs.length cap ∧ g < W.heap.size ∧ base ≤ g ∧ ∀ j, j < 6 → W.cell? ⟨g, k * 6 + j, none⟩ = (x.cells)[j]? := by
  have hk := (List.getElem?_eq_some_iff.1 hx).1
  rcases h.row.2 with ⟨hv, h0⟩ | ⟨g, cap, cur, hv, hg, hh, hr⟩
  · have : xs.length = 0 := h0
    omega
  · subst hv
    refine ⟨g, cap, rfl, blk_lt hh, hg, fun j hj => ?_⟩
    rw [World.ownsRow.cellAt h.row (k * 6 + j) (by
      have : (k + 1) * 6 ≤ xs.length * 6 := Nat.mul_le_mul_right _ (by omega)
      omega), flatv_get nde_size xs hx hj]
theorem flr_len {w : World} {base : Nat} {nv : Value} {xs : List Nde} (h : FlR w base nv xs) : ∀ ty w, (Builtin.len_ #[42] ty #[nv]).run Tryd.prog w = .ok (.int .i64 (xs.length : Int)) w := fun ty w => by
  rcases Joins.ownsRow_forms h.row with ⟨rfl, h0⟩ | ⟨g, cap, rfl⟩
  · rw [h0]; simp [go_sem, Tryd.underlying42]
  · simp [go_sem, Tryd.underlying42]

set_option maxRecDepth 100000 in
set_option maxHeartbeats 1600000 in
theorem ridx_any (w : World) (base : Nat) (nv : Value) (xs : List Nde) (s : ByteArray) (hF : FlR w base nv xs) (hl63 : xs.length ≤ 4096) : Calls Tryd.prog 83 #[.agg #[nv], .string s] w fun e w' => e = .returned (.int .i64 (idxN (xs.map Nde.name) s 0)) ∧ Below w.heap.size w w' := by
  have hln := flr_len hF
  obtain ⟨n, hn⟩ : ∃ n, n = xs.length := ⟨_, rfl⟩
  rw [← hn] at hln hl63
  obtain ⟨W, hW⟩ : ∃ W, W = w.alloc (.cells #[nv] 44 (0, 0)) := ⟨_, rfl⟩
  have hb : Below w.heap.size w W := by rw [hW]; exact (Below.refl _ _).alloc (Nat.le_refl _) _
  have hbx : W.heap[w.heap.size]? = some (.cells #[nv] 44 (0, 0)) := by rw [hW]; exact blk_new _ _
  have hF1 := hF.below hb
  have f0 : W.cell? ⟨w.heap.size, 0, none⟩ = some nv := blk_cell hbx 0
  replace hF := Lib.hid hF; replace hn := Lib.hid hn; replace hb := Lib.hid hb; replace hbx := Lib.hid hbx; replace hF1 := Lib.hid hF1
  go_enter Tryd.func83, Tryd.ntmps83
  go_wp2
  rw [← hW]
  have hW' := Lib.hid hW
  clear hW
  go_loop [5] (fun i => ∃ k : Nat, i = .int .i64 k ∧ k ≤ n ∧ Hid (idxN (xs.map Nde.name) s 0 = idxN ((xs.map Nde.name).drop k) s k)) (fun i => n - (intOf i).toNat)
  case atStart => exact ⟨0, rfl, Nat.zero_le _, rfl⟩
  case round =>
    obtain ⟨k, rfl, hk, hI⟩ := hrel
    by_cases hc : k < n
    · have hc1 : (k : Int) < n := by omega
      have hk0 : (0 : Int) ≤ (k : Int) := by omega
      obtain ⟨x, hx⟩ : ∃ x, xs[k]? = some x := ⟨_, List.getElem?_eq_getElem (by have := hn.out; omega)⟩
      obtain ⟨g, cap, rfl, _, _, hcell⟩ := hF1.out.cell hx
      have c0 : W.cell? ⟨g, k * 6 + 0, none⟩ = some (.string x.name) := hcell 0 (by omega)
      rw [Nat.add_zero] at c0
      have hlt : (xs.map Nde.name)[k]? = some x.name := by rw [List.getElem?_map, hx]; rfl
      have hdr : (xs.map Nde.name).drop k = x.name :: (xs.map Nde.name).drop (k + 1) := by
        obtain ⟨h1, h2⟩ := List.getElem?_eq_some_iff.1 hlt
        rw [List.drop_eq_getElem_cons h1, h2]
      rw [← hn.out] at f0
      clear hln
      by_cases q : x.name = s
      · have d := str_eq q
        have hr : idxN (xs.map Nde.name) s 0 = (k : Int) := by rw [hI.out, hdr]; simp only [idxN]; rw [if_pos q]
        replace hx := Lib.hid hx; replace hcell := Lib.hid hcell; replace hlt := Lib.hid hlt; replace hdr := Lib.hid hdr; replace q := Lib.hid q; replace hr := Lib.hid hr
        go_wp2
        go_ret
        exact ⟨by rw [hr.out]; rfl, hb.out⟩
      · have d := str_ne q
        have hr : idxN (xs.map Nde.name) s 0 = idxN ((xs.map Nde.name).drop (k + 1)) s (k + 1) := by rw [hI.out, hdr]; simp only [idxN]; rw [if_neg q]
        replace hx := Lib.hid hx; replace hcell := Lib.hid hcell; replace hlt := Lib.hid hlt; replace hdr := Lib.hid hdr; replace q := Lib.hid q; replace hr := Lib.hid hr
        go_wp2
        go_round
        case rel => exact ⟨k + 1, by go_num, by omega, hr.out⟩
        case measure => simp [intOf]; omega
    · have hc1 : ¬ (k : Int) < n := by omega
      have hr : idxN (xs.map Nde.name) s 0 = -1 := by
        rw [hI.out, List.drop_eq_nil_of_le (by rw [List.length_map]; have := hn.out; omega)]; rfl
      replace hr := Lib.hid hr
      go_wp2
      go_ret
      exact ⟨by rw [hr.out]; rfl, hb.out⟩
end Go.Proofs.YteoihdkaoipocaaDoor
