/- gang.New: a pool of nodes that have so much. -/
import Derived.Test.YtpjajiambbobhaaPool
import Derived.Maps.AppendAt
namespace Go.Proofs.Ytpjajiambbobhaa
open Go.RowKit

def vv (vs : List V4) (i : Nat) : V4 := vs.getD i V4.zero
structure VecsAt (w : World) (ao : Option Addr) (n : Nat) (vs : List V4) : Prop where
  len : vs.length = n
  max : n ≤ 9223372036854775807
  cell : ∀ i, i < n → ∃ b off, ao = some ⟨b, off, none⟩ ∧ b < w.heap.size ∧ w.cell? ⟨b, off + i * 4, none⟩ = some (.int .i64 (vv vs i).a) ∧ w.cell? ⟨b, off + i * 4 + 1, none⟩ = some (.int .i64 (vv vs i).b) ∧
    w.cell? ⟨b, off + i * 4 + 2, none⟩ = some (.int .i64 (vv vs i).c) ∧ w.cell? ⟨b, off + i * 4 + 3, none⟩ = some (.int .i64 (vv vs i).d)
theorem VecsAt.below {w w' : World} {ao : Option Addr} {n : Nat} {vs : List V4} (h : VecsAt w ao n vs) {B : Nat} (hb : Below B w w') (hB : w.heap.size ≤ B) : VecsAt w' ao n vs :=
  ⟨h.len, h.max, fun i hi => by
    obtain ⟨b, off, e, hlt, a0, a1, a2, a3⟩ := h.cell i hi
    exact ⟨b, off, e, Nat.lt_of_lt_of_le hlt hb.size, (below_cell hb (by omega)).trans a0, (below_cell hb (by omega)).trans a1, (below_cell hb (by omega)).trans a2, (below_cell hb (by omega)).trans a3⟩⟩

theorem info28 : (Try.prog.info? 28).map (fun i => (i.zero, i.size, i.bytes)) = some (some (.pointer none), 1, 8) := by kernel_rfl

def ptrv (p : Nd) : Value := .pointer (some ⟨p.pb, 0, none⟩)

structure NI (w : World) (vs : List V4) (k : Nat) (q : List Nd) (sv : Value) (wr : World) : Prop where
  len : q.length = k
  head : wr.heap[w.heap.size]? = some (.cells #[sv] 111 (0, 0))
  row : wr.ownsRow (w.heap.size + 1) 28 1 sv k (q.map ptrv)
  node : ∀ i, i < k → Prof wr (nd q i).pb (nd q i).sb (nd q i).cap (nd q i).whole (nd q i).l ∧ (nd q i).whole = vv vs i ∧ (nd q i).l = [⟨0, vv vs i⟩] ∧ (vv vs i).right = true ∧ w.heap.size < (nd q i).pb ∧ w.heap.size < (nd q i).sb
  apart : ∀ i j, i < k → j < k → i ≠ j → (nd q i).pb ≠ (nd q j).pb ∧ (nd q i).pb ≠ (nd q j).sb ∧ (nd q i).sb ≠ (nd q j).sb
  off : ∀ i, i < k → ∀ g, sv.ownBlock = some g → (nd q i).pb ≠ g ∧ (nd q i).sb ≠ g
  low : Below w.heap.size w wr

theorem nd_app (q : List Nd) (x : Nd) (i : Nat) (h : i ≤ q.length) : nd (q ++ [x]) i = if i = q.length then x else nd q i := by
  unfold nd
  by_cases e : i = q.length
  · subst e; simp
  · rw [if_neg e]
    simp [List.getD, List.getElem?_append_left (show i < q.length by omega)]

theorem owns_same {w w' : World} {base size n : Nat} {e : TypeId} {v : Value} {xs : List Value} (h : w.ownsRow base e size v n xs) (hb : ∀ g, v.ownBlock = some g → w'.heap[g]? = w.heap[g]?) : w'.ownsRow base e size v n xs := by
  obtain ⟨h1, h2⟩ := h
  refine ⟨h1, ?_⟩
  rcases h2 with h | ⟨g, cap, cur, hv, hg, hh, hr⟩
  · exact .inl h
  · exact .inr ⟨g, cap, cur, hv, hg, (hb g (by rw [hv]; rfl)).trans hh, hr⟩

theorem NI.step {w wr w2 w3 : World} {vs : List V4} {k : Nat} {q : List Nd} {sv v' : Value} {X : Obj} {pb sb : Nat} (h : NI w vs k q sv wr) (hb : Below wr.heap.size wr w2)
    (hp : Prof w2 pb sb 1 (vv vs k) [⟨0, vv vs k⟩]) (hr : (vv vs k).right = true) (h1 : wr.heap.size ≤ pb) (h2 : wr.heap.size ≤ sb)
    (hown : w3.ownsRow (w.heap.size + 1) 28 1 v' (k + 1) (q.map ptrv ++ [.pointer (some ⟨pb, 0, none⟩)])) (hg : (w2.alloc X).grownBy w3 sv.ownBlock)
    (hbk : v'.ownBlock = sv.ownBlock ∨ v'.ownBlock = some (w2.alloc X).heap.size) :
    NI w vs (k + 1) (q ++ [⟨pb, sb, 1, vv vs k, [⟨0, vv vs k⟩]⟩]) v' (w3.setCell ⟨w.heap.size, 0, none⟩ v') := by
  have hlen := h.len
  have hl := blk_lt h.head
  have hs := hb.size
  have hlt := h.row.lt
  have hne : ∀ b, b < w2.heap.size → (∀ g, sv.ownBlock = some g → b ≠ g) → b ≠ w.heap.size → (w3.setCell ⟨w.heap.size, 0, none⟩ v').heap[b]? = w2.heap[b]? := fun b b1 b2 b3 => by
    rw [Below.heap_setCell _ _ _ _ b3]
    exact (hg.block b (by simp; omega) (fun c => b2 b c.symm rfl)).trans (Below.heap_alloc w2 X b b1)
  have hold : ∀ i, i < k → (nd q i).pb < wr.heap.size ∧ (nd q i).sb < wr.heap.size := fun i hi => (h.node i hi).1.lt
  have hpl := hp.lt
  have hgk : ∀ g, sv.ownBlock = some g → g < wr.heap.size ∧ w.heap.size < g := fun g hg => by have := hlt g hg; omega
  have hget : ∀ i, i < k + 1 → nd (q ++ [⟨pb, sb, 1, vv vs k, [⟨0, vv vs k⟩]⟩]) i = if i = k then ⟨pb, sb, 1, vv vs k, [⟨0, vv vs k⟩]⟩ else nd q i := fun i hi => by rw [nd_app _ _ _ (by omega), hlen]
  refine ⟨by simp [hlen], ?_, ?_, ?_, ?_, ?_, ?_⟩
  · rw [blk_set ((hg.block w.heap.size (by simp; omega) (fun c => by have := hgk _ c.symm; omega)).trans ((Below.heap_alloc w2 X _ (by omega)).trans (blk_below hb h.head hl)))]
    simp
  · rw [List.map_append]
    refine owns_same hown fun g hg2 => Below.heap_setCell _ _ _ _ ?_
    have := hown.lt g hg2
    show g ≠ w.heap.size
    omega
  · intro i hi
    rw [hget i hi]
    by_cases e : i = k
    · subst e
      rw [if_pos rfl]
      refine ⟨⟨?_, hp.row.of_block ?_, hp.ne⟩, rfl, rfl, hr, by simp only; omega, by simp only; omega⟩
      · exact (hne pb hpl.1 (fun g hg => by have := hgk g hg; omega) (by omega)).trans hp.head
      · exact hne sb hpl.2 (fun g hg => by have := hgk g hg; omega) (by omega)
    · rw [if_neg e]
      obtain ⟨n1, n2, n3, n4, n5, n6⟩ := h.node i (by omega)
      have ho := hold i (by omega)
      have hf := h.off i (by omega)
      refine ⟨⟨?_, n1.row.of_block ?_, n1.ne⟩, n2, n3, n4, n5, n6⟩
      · exact (hne _ (by omega) (fun g hg => (hf g hg).1) (by omega)).trans (blk_below hb n1.head ho.1)
      · exact (hne _ (by omega) (fun g hg => (hf g hg).2) (by omega)).trans (hb.block _ ho.2)
  · intro i j hi hj hij
    rw [hget i hi, hget j hj]
    by_cases e1 : i = k
    · have e2 : j ≠ k := by omega
      rw [if_pos e1, if_neg e2]
      have ho := hold j (by omega)
      refine ⟨?_, ?_, ?_⟩ <;> simp only <;> omega
    · rw [if_neg e1]
      have ho := hold i (by omega)
      by_cases e2 : j = k
      · rw [if_pos e2]
        refine ⟨?_, ?_, ?_⟩ <;> simp only <;> omega
      · rw [if_neg e2]; exact h.apart i j (by omega) (by omega) hij
  · intro i hi g hg2
    rw [hget i hi]
    have hsz : (w2.alloc X).heap.size = w2.heap.size + 1 := by simp
    rcases hbk with hb2 | hb2
    · rw [hb2] at hg2
      by_cases e : i = k
      · rw [if_pos e]
        have := hgk g hg2
        refine ⟨?_, ?_⟩ <;> simp only <;> omega
      · rw [if_neg e]; exact h.off i (by omega) g hg2
    · rw [hb2, hsz] at hg2
      simp at hg2
      by_cases e : i = k
      · rw [if_pos e]
        refine ⟨?_, ?_⟩ <;> simp only <;> omega
      · rw [if_neg e]
        have ho := hold i (by omega)
        omega
  · have hb2 := h.low.trans (hb.mono h.low.size)
    exact ((hb2.alloc (by omega) X).grown hg (by simp; omega) (fun g hg => by have := hgk g hg; omega)).setCell (Nat.le_refl _) _
theorem NI.pool {w wr : World} {vs : List V4} {n : Nat} {q : List Nd} {sv : Value} (h : NI w vs n q sv wr) (hn : n ≤ 16) : ∃ gs ao cap, sv = .slice ao n cap ∧ Pool wr w.heap.size gs ao cap q := by
  have hlen := h.len
  rcases Joins.ownsRow_forms h.row with ⟨rfl, h0⟩ | ⟨g, cap, rfl⟩
  · refine ⟨0, none, 0, by rw [h0], ?_⟩
    exact ⟨by rw [hlen, h0]; exact h.head, fun c => by omega, fun i hi => by omega, fun i hi => by omega, fun i hi => by omega, fun i j hi => by omega, fun i hi => by omega, by omega⟩
  · have hg := h.row.lt g rfl
    refine ⟨g, some ⟨g, 0, none⟩, cap, rfl, ?_⟩
    refine ⟨by rw [hlen]; exact h.head, fun _ => rfl, fun i hi => ?_, fun i hi => (h.node i (by omega)).1, fun i hi => ?_, fun i j hi hj => h.apart i j (by omega) (by omega), fun i hi => ?_, by omega⟩
    · rw [h.row.cellAt i (by omega)]
      simp [ptrv, nd, List.getD, hi]
    · obtain ⟨n1, n2, n3, n4, n5, n6⟩ := h.node i (by omega)
      rw [n2, n3]; exact inv_new n4
    · obtain ⟨n1, n2, n3, n4, n5, n6⟩ := h.node i (by omega)
      have ho := h.off i (by omega) g rfl
      exact ⟨by omega, by omega, ho.1, ho.2⟩

def NewgPost (vs : List V4) (n : Nat) (w : World) (e : Ending) (w' : World) : Prop :=
  (¬ (n ≤ 16 ∧ ∀ i, i < n → (vv vs i).right = true) ∧ e = .returned (.pointer none) ∧ Below w.heap.size w w') ∨
  (n ≤ 16 ∧ (∀ i, i < n → (vv vs i).right = true) ∧ ∃ gb gs ao cap ps, e = .returned (.pointer (some ⟨gb, 0, none⟩)) ∧ w.heap.size ≤ gb ∧ Pool w' gb gs ao cap ps ∧ ps.length = n ∧
    (∀ i, i < n → (nd ps i).whole = vv vs i ∧ (nd ps i).l = [⟨0, vv vs i⟩]) ∧ (∀ b, Mine ps b → w.heap.size ≤ b) ∧ Below w.heap.size w w')

set_option maxRecDepth 100000 in
set_option maxHeartbeats 1600000 in
theorem newg_any (ao : Option Addr) (n c : Nat) (vs : List V4) (w : World) (hz : VecsAt w ao n vs) : Calls Try.prog 34 #[.slice ao n c] w (NewgPost vs n w) := by
  obtain ⟨i28, hi28, hz28, hz281, hz282⟩ := info_parts info28
  have hmax := hz.max
  replace hz := Lib.hid hz
  by_cases q1 : 16 < n
  · have d1 : decide (16 < (n : Int)) = true := by simp; omega
    go_enter Try.func34, Try.ntmps34
    go_wp2
    go_ret
    exact .inl ⟨fun h => by omega, rfl, Below.refl _ _⟩
  have d1 : decide (16 < (n : Int)) = false := by simp; omega
  replace q1 := Lib.hid q1
  go_enter Try.func34, Try.ntmps34
  go_wp2
  go_loopw [5, 6, 14] (fun _ _ i wr => ∃ (k : Nat) (q : List Nd) (sv : Value), i = .int .i64 k ∧ k ≤ n ∧ Hid (NI w vs k q sv wr)) (fun _ _ i _ => n - (intOf i).toNat)
  case atStart => exact ⟨0, [], .slice none 0 0, rfl, Nat.zero_le _, ⟨rfl, blk_new _ _, World.ownsRow_nil _ _ _ _, fun i hi => by omega, fun i j hi => by omega, fun i hi => by omega, (Below.refl _ _).alloc (Nat.le_refl _) _⟩⟩
  case round =>
    obtain ⟨k, q, sv, rfl, hk, hN⟩ := hrel
    by_cases hc : k < n
    · have hc1 : (k : Int) < n := by omega
      have hk0 : (0 : Int) ≤ (k : Int) := by omega
      obtain ⟨b, off, rfl, hb, a0, a1, a2, a3⟩ := hz.out.cell k hc
      have hBr := hN.out.low
      have b0 := (below_cell hBr hb).trans a0; have b1 := (below_cell hBr hb).trans a1; have b2 := (below_cell hBr hb).trans a2; have b3 := (below_cell hBr hb).trans a3
      clear a0 a1 a2 a3
      have s1 := hBr.size
      have hgb := blk_lt hN.out.head
      obtain ⟨x, hx⟩ : ∃ x, x = vv vs k := ⟨_, rfl⟩
      rw [← hx] at b0 b1 b2 b3
      replace hx := Lib.hid hx; replace hBr := Lib.hid hBr
      go_wp2_with fail
      refine (new_any x _).mono ?_
      rintro e w2 (⟨hw, rfl, hb2⟩ | ⟨hw, pb, sb, rfl, hp, hpb, hsb, hb2⟩)
      · have hBe : Below w.heap.size w w2 := (hBr.out.alloc s1 _).trans (hb2.mono (by simp; omega))
        replace hBe := Lib.hid hBe; replace hb2 := Lib.hid hb2; replace hw := Lib.hid hw
        go_wp2
        go_ret
        refine .inl ⟨fun h => ?_, rfl, hBe.out⟩
        have := h.2 k hc
        rw [← hx.out, hw.out] at this; cases this
      · have hb : Below wr.heap.size wr w2 := ((Below.refl _ _).alloc (Nat.le_refl _) _).trans (hb2.mono (by simp))
        have hpb' : wr.heap.size ≤ pb := by simp at hpb; omega
        have hsb' : wr.heap.size ≤ sb := by simp at hsb; omega
        have hh := blk_below hb hN.out.head hgb
        have c0 := blk_cell hh 0
        simp at c0
        have s2 := hb.size
        have hgk := hN.out.row.lt
        have hrow2 : w2.ownsRow (w.heap.size + 1) 28 1 sv k (q.map ptrv) := owns_same hN.out.row fun g hg => hb.block g (hgk g hg).2
        have hownA := hrow2.alloc (.cells #[.pointer (some ⟨pb, 0, none⟩)] 28 (0, 0))
        have hnews : ∀ j u, ([.pointer (some ⟨pb, 0, none⟩)] : List Value)[j]? = some u → (w2.alloc (.cells #[.pointer (some ⟨pb, 0, none⟩)] 28 (0, 0))).cell? ((⟨w2.heap.size, 0, none⟩ : Addr).add j) = some u := by
          intro j u hu
          match j, hu with
          | 0, hu =>
            have := blk_cell (blk_new w2 (.cells #[.pointer (some ⟨pb, 0, none⟩)] 28 (0, 0))) 0
            simp at hu; subst hu
            exact this
          | j + 1, hu => simp at hu
        have hone1 : ∀ u ∈ ([.pointer (some ⟨pb, 0, none⟩)] : List Value), u.oneCell' = true := by simp [Value.oneCell']
        have h63 : k + 1 ≤ maxLen := by
          have : maxLen = 9223372036854775807 := by kernel_rfl
          have := q1.out
          omega
        have hby : (k + 1) * 8 ≤ 140737488355328 := by have := q1.out; omega
        have hbas : w.heap.size + 1 ≤ (w2.alloc (.cells #[.pointer (some ⟨pb, 0, none⟩)] 28 (0, 0))).heap.size := by simp; omega
        have lgb2 := blk_lt hh
        replace hh := Lib.hid hh; replace hb := Lib.hid hb; replace hb2 := Lib.hid hb2; replace hp := Lib.hid hp; replace hw := Lib.hid hw; replace hgk := Lib.hid hgk; replace hrow2 := Lib.hid hrow2
        replace hownA := Lib.hid hownA; replace hnews := Lib.hid hnews; replace hone1 := Lib.hid hone1; replace h63 := Lib.hid h63; replace hby := Lib.hid hby; replace hbas := Lib.hid hbas; replace hpb := Lib.hid hpb; replace hsb := Lib.hid hsb
        go_wp2_with (at_builtin; refine wpList_append_own_at _ rfl _ _ 109 rfl (w.heap.size + 1) 28 i28 _ 1 8 Try.underlying109 hi28 hz28 hz281 hz282 rfl (by decide) sv k _ rfl hownA.out ⟨w2.heap.size, 0, none⟩ 1 1 [.pointer (some ⟨pb, 0, none⟩)] rfl rfl hnews.out hone1.out h63.out hby.out hbas.out ?_; intro v1 w3 hown3 hgrow _ hblk; obtain ⟨g, cap1, rfl⟩ := Joins.ownsRow_form hown3 (by omega); have hh3 : w3.heap[w.heap.size]? = some (.cells #[sv] 111 (0, 0)) := (hgrow.block w.heap.size (by simp; omega) (fun c => by have := hgk.out _ c.symm; omega)).trans ((Below.heap_alloc w2 _ _ lgb2).trans hh.out); have g3 := blk_cell hh3 0; have f3 := blk_free hh3 0; simp at g3; replace hown3 := Lib.hid hown3; replace hgrow := Lib.hid hgrow; replace hblk := Lib.hid hblk; replace hh3 := Lib.hid hh3)
        go_roundw
        case rel =>
          refine ⟨k + 1, _, _, by go_num, by omega, NI.step hN.out hb.out (by rw [← hx.out]; exact hp.out) (by rw [← hx.out]; exact hw.out) hpb' hsb' hown3.out hgrow.out hblk.out⟩
        case measure => simp [intOf]; omega
    · have hc1 : ¬ (k : Int) < n := by omega
      have hkn : k = n := by omega
      replace hkn := Lib.hid hkn
      go_wp2
      go_ret
      have hN2 := hN.out
      rw [hkn.out] at hN2
      have hq := q1.out
      obtain ⟨gs, ao', cap, _, hP⟩ := hN2.pool (by omega)
      refine .inr ⟨by omega, fun i hi => (hN2.node i hi).2.2.2.1, w.heap.size, gs, ao', cap, q, rfl, Nat.le_refl _, hP, hN2.len, fun i hi => ⟨(hN2.node i hi).2.1, (hN2.node i hi).2.2.1⟩, ?_, hN2.low⟩
      rintro b ⟨i, hi, h | h⟩
      · have := (hN2.node i (by rw [← hN2.len]; exact hi)).2.2.2.2.1; omega
      · have := (hN2.node i (by rw [← hN2.len]; exact hi)).2.2.2.2.2; omega
end Go.Proofs.Ytpjajiambbobhaa
