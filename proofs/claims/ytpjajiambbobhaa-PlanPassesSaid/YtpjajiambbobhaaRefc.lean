/- The document's pool: Change. Conditions: the rows lie in memory. -/
import Derived.Test.YtpjajiambbobhaaRefb
/- corveeref07.Pool.Change: an amount is taken of the nodes of a gang, or given back. -/
namespace Go.Proofs.Ytpjajiambbobhaa
open Go.RowKit

def RRow (w : World) (sv : Value) (rs : List Rp) : Prop := PRow w sv rs ∧ ∀ i, i < rs.length → CRow w (rp rs i).sv (rp rs i).cs
theorem RRow.below {w w' : World} {sv : Value} {rs : List Rp} {B : Nat} (h : RRow w sv rs) (hb : Below B w w') (hB : w.heap.size ≤ B) : RRow w' sv rs := ⟨h.1.below hb hB, fun i hi => (h.2 i hi).below hb hB⟩
theorem owns_setT {w : World} {base size n b : Nat} {e T : TypeId} {v : Value} {xs : List Value} {o : Array Value} (h : w.ownsRow base e size v n xs) (hb : w.heap[b]? = some (.cells o T (0, 0))) (hT : e ≠ T) (j : Nat) (u : Value) : (w.setCell ⟨b, j, none⟩ u).ownsRow base e size v n xs := by
  obtain ⟨h1, h2⟩ := h
  refine ⟨h1, ?_⟩
  rcases h2 with h | ⟨g, cap, cur, hv, hg, hh, hr⟩
  · exact .inl h
  · have hne : g ≠ b := fun c => by rw [c, hb] at hh; simp at hh; exact hT hh.2.symm
    exact .inr ⟨g, cap, cur, hv, hg, blk_set_other hne _ hh, hr⟩
theorem RRow.setQ {w : World} {sv : Value} {rs : List Rp} {b : Nat} {o : Array Value} (h : RRow w sv rs) (hb : w.heap[b]? = some (.cells o 67 (0, 0))) (u : Value) : RRow (w.setCell ⟨b, 0, none⟩ u) sv rs :=
  ⟨owns_setT h.1 hb (by decide) 0 u, fun i hi => owns_setT (h.2 i hi) hb (by decide) 0 u⟩

def OkS (back : Bool) (whole : V4) (l : List St) (fr tt : Int) (v : V4) : Prop := if back = true then ∀ u, fr ≤ u → u < tt → (add4 (val l u) v).leq whole else ∀ u, fr ≤ u → u < tt → v.leq (val l u)
def RChg (back : Bool) (rs : List Rp) (ps : List Nd) (zs : List Int) (fr tt : Int) (v : V4) (r : Int) (rs' : List Rp) : Prop :=
  (¬ (Gang ps.length zs ∧ spanL fr tt v = true) ∧ r = 1 ∧ rs' = rs) ∨
  (Gang ps.length zs ∧ spanL fr tt v = true ∧ ¬ (∀ i, i < ps.length → Among zs zs.length i → OkS back (nd ps i).whole (nd ps i).l fr tt v) ∧ r = (if back = true then 61 else 60) ∧ rs' = rs) ∨
  (Gang ps.length zs ∧ spanL fr tt v = true ∧ (∀ i, i < ps.length → Among zs zs.length i → OkS back (nd ps i).whole (nd ps i).l fr tt v) ∧ r = 0 ∧ rs'.length = rs.length ∧
    ∀ i, i < rs.length → (rp rs' i).whole = (rp rs i).whole ∧ (Among zs zs.length i → (rp rs' i).cs = (rp rs i).cs ++ [⟨fr, tt, v, back⟩]) ∧ (¬ Among zs zs.length i → (rp rs' i).cs = (rp rs i).cs))
def ChgPost (back : Bool) (rs : List Rp) (ps : List Nd) (zs : List Int) (fr tt : Int) (v : V4) (w : World) (e : Ending) (w' : World) : Prop :=
  ∃ r sv rs', e = .returned (.tuple #[.agg #[sv], .int .i64 r]) ∧ RChg back rs ps zs fr tt v r rs' ∧ RRow w' sv rs' ∧ Below w.heap.size w w'

/-- what has been done to the first of the nodes -/
structure ChK (back : Bool) (rs : List Rp) (ps : List Nd) (zs : List Int) (fr tt : Int) (v : V4) (k : Nat) (q : List Rp) : Prop where
  len : q.length = rs.length
  ok : ∀ i, i < ps.length → Among zs k i → OkS back (nd ps i).whole (nd ps i).l fr tt v
  one : ∀ i, i < rs.length → (rp q i).whole = (rp rs i).whole ∧ (Among zs k i → (rp q i).cs = (rp rs i).cs ++ [⟨fr, tt, v, back⟩]) ∧ (¬ Among zs k i → (rp q i).cs = (rp rs i).cs)
theorem ChK.zero (back : Bool) (rs : List Rp) (ps : List Nd) (zs : List Int) (fr tt : Int) (v : V4) : ChK back rs ps zs fr tt v 0 rs :=
  ⟨rfl, fun i _ h => (by obtain ⟨j, hj, _⟩ := h; omega), fun i _ => ⟨rfl, fun h => (by obtain ⟨j, hj, _⟩ := h; omega), fun _ => rfl⟩⟩
theorem gang_lt2 {n : Nat} {zs : List Int} (h : Gang n zs) : ∀ d i, i + d + 1 < zs.length → zi zs i < zi zs (i + d + 1)
  | 0, i, hi => h.rise i hi
  | d + 1, i, hi => Int.lt_trans (gang_lt2 h d i (by omega)) (h.rise (i + d + 1) hi)
theorem gang_new {n : Nat} {zs : List Int} (h : Gang n zs) {k x : Nat} (hk : k < zs.length) (hx : zi zs k = (x : Int)) : ¬ Among zs k x := by
  rintro ⟨j, hj, e⟩
  have := gang_lt2 h (k - j - 1) j (by omega)
  rw [show j + (k - j - 1) + 1 = k by omega, hx, e] at this
  omega
theorem ChK.step {back : Bool} {rs q : List Rp} {ps : List Nd} {zs : List Int} {fr tt : Int} {v : V4} {k x : Nat} (h : ChK back rs ps zs fr tt v k q) (hg : Gang ps.length zs) (hl : rs.length = ps.length) (hk : k < zs.length) (hx : zi zs k = (x : Int))
    (hok : OkS back (nd ps x).whole (nd ps x).l fr tt v) (y : Rp) (hw : y.whole = (rp rs x).whole) (hc : y.cs = (rp rs x).cs ++ [⟨fr, tt, v, back⟩]) : ChK back rs ps zs fr tt v (k + 1) (q.set x y) := by
  have hxn : x < ps.length := by have := hg.high k hk; omega
  have among : ∀ i, Among zs (k + 1) i ↔ Among zs k i ∨ i = x := fun i => by
    constructor
    · rintro ⟨j, hj, e⟩
      by_cases c : j = k
      · subst c; right; omega
      · exact .inl ⟨j, by omega, e⟩
    · rintro (⟨j, hj, e⟩ | rfl)
      · exact ⟨j, by omega, e⟩
      · exact ⟨k, by omega, hx⟩
  have hql := h.len
  refine ⟨by simp [h.len], fun i hi ha => ?_, fun i hi => ?_⟩
  · rcases (among i).1 ha with c | rfl
    · exact h.ok i hi c
    · exact hok
  · rw [rp_set _ (by omega)]
    by_cases c : i = x
    · subst c
      rw [if_pos rfl]
      exact ⟨hw, fun _ => hc, fun hn => absurd ((among i).2 (.inr rfl)) hn⟩
    · rw [if_neg c]
      obtain ⟨a1, a2, a3⟩ := h.one i hi
      exact ⟨a1, fun ha => a2 (by rcases (among i).1 ha with d | d; exact d; exact absurd d c), fun hn => a3 fun d => hn ((among i).2 (.inl d))⟩
end Go.Proofs.Ytpjajiambbobhaa

/- corveeref07.Pool.Change, walked. -/
namespace Go.Proofs.Ytpjajiambbobhaa
open Go.RowKit

structure CW (w : World) (sv : Value) (v : V4) (Q : Nat) (svk : Value) (wr : World) : Prop where
  p : wr.heap[w.heap.size]? = some (.cells #[sv] 67 (0, 0))
  v : wr.heap[w.heap.size + 1]? = some (.cells v.cells 23 (0, 0))
  r : wr.heap[w.heap.size + 1 + 1]? = some (.cells #[.slice none 0 0] 67 (0, 0))
  q : wr.heap[Q]? = some (.cells #[svk] 67 (0, 0))
  low : Below w.heap.size w wr
theorem CW.below {w wr w' : World} {sv svk : Value} {v : V4} {Q : Nat} (h : CW w sv v Q svk wr) (hb : Below wr.heap.size wr w') : CW w sv v Q svk w' :=
  ⟨blk_below hb h.p (blk_lt h.p), blk_below hb h.v (blk_lt h.v), blk_below hb h.r (blk_lt h.r), blk_below hb h.q (blk_lt h.q), h.low.trans (hb.mono h.low.size)⟩
theorem CW.set {w wr : World} {sv svk : Value} {v : V4} {Q : Nat} (h : CW w sv v Q svk wr) (hQ : w.heap.size + 1 + 1 < Q) (u : Value) : CW w sv v Q u (wr.setCell ⟨Q, 0, none⟩ u) :=
  ⟨blk_set_other (by omega) _ h.p, blk_set_other (by omega) _ h.v, blk_set_other (by omega) _ h.r, by rw [blk_set h.q]; rfl, h.low.setCell (by show w.heap.size ≤ Q; omega) _⟩

theorem set5p {w : World} {b : Nat} {o : Array Value} (h : w.heap[b]? = some (.cells o 119 (0, 0))) (ho : o.size = 5) (whole : V4) (sv : Value) :
    (((((w.setCell ⟨b, 0, none⟩ (.int .i64 whole.a)).setCell ⟨b, 1, none⟩ (.int .i64 whole.b)).setCell ⟨b, 2, none⟩ (.int .i64 whole.c)).setCell ⟨b, 3, none⟩ (.int .i64 whole.d)).setCell ⟨b, 4, none⟩ sv).heap[b]? = some (.cells (pcells whole sv) 119 (0, 0)) := by
  rw [blk_set (blk_set (blk_set (blk_set (blk_set h 0 (.int .i64 whole.a)) 1 (.int .i64 whole.b)) 2 (.int .i64 whole.c)) 3 (.int .i64 whole.d)) 4 sv]
  obtain ⟨l⟩ := o
  match l, ho with
  | [a0, a1, a2, a3, a4], _ => simp
theorem CRow.one {w : World} {sv : Value} {cs : List Ch} (h : CRow w sv cs) : sv.oneCell' = true := by
  obtain ⟨ao, cap, rfl, _⟩ := h.form
  rfl
theorem rb_false {cs : List Ch} {whole : V4} {l : List St} {fr tt : Int} {v : V4} {r : Int} {c : List Ch} (hs : spanL fr tt v = true) (h : RTaken cs l fr tt v r c) : (¬ OkS false whole l fr tt v ∧ r = 60) ∨ (OkS false whole l fr tt v ∧ r = 0 ∧ c = cs ++ [⟨fr, tt, v, false⟩]) := by
  rcases h with ⟨a, _⟩ | ⟨_, a, b, _⟩ | ⟨_, a, b, d⟩
  · rw [hs] at a; cases a
  · exact .inl ⟨by simpa [OkS] using a, b⟩
  · exact .inr ⟨by simpa [OkS] using a, b, d⟩
theorem rb_true {cs : List Ch} {whole : V4} {l : List St} {fr tt : Int} {v : V4} {r : Int} {c : List Ch} (hs : spanL fr tt v = true) (h : RGiven whole cs l fr tt v r c) : (¬ OkS true whole l fr tt v ∧ r = 61) ∨ (OkS true whole l fr tt v ∧ r = 0 ∧ c = cs ++ [⟨fr, tt, v, true⟩]) := by
  rcases h with ⟨a, _⟩ | ⟨_, a, b, _⟩ | ⟨_, a, b, d⟩
  · rw [hs] at a; cases a
  · exact .inl ⟨by simpa [OkS] using a, b⟩
  · exact .inr ⟨by simpa [OkS] using a, b, d⟩
/-- what the second of them leaves -/
structure XQ (wr : World) (X : Nat) (whole : V4) (R : Int → List Ch → Prop) (ev : Value) (wx : World) : Prop where
  ex : ∃ r sv cs, ev = .int .i64 r ∧ Hid (R r cs) ∧ Hid (wx.heap[X]? = some (.cells (pcells whole sv) 119 (0, 0))) ∧ Hid (CRow wx sv cs) ∧ Hid (Below wr.heap.size wr wx)
/-- what the two calls at a node leave -/
structure XP (wr : World) (whole : V4) (R : Int → List Ch → Prop) (xv ev : Value) (wx : World) : Prop where
  ex : ∃ X r sv cs, xv = .pointer (some ⟨X, 0, none⟩) ∧ ev = .int .i64 r ∧ Hid (R r cs) ∧ Hid (wx.heap[X]? = some (.cells (pcells whole sv) 119 (0, 0))) ∧ Hid (CRow wx sv cs) ∧ Hid (wr.heap.size ≤ X) ∧ Hid (Below wr.heap.size wr wx)

set_option maxRecDepth 100000 in
set_option maxHeartbeats 6400000 in
theorem rchg_any (back : Bool) (sv : Value) (rs : List Rp) (ps : List Nd) (N : Nat) (ao : Option Addr) (m c : Nat) (zs : List Int) (fr tt : Int) (v : V4) (w : World) (hp : RPool w sv rs ps N) (hz : IntsAt w ao m zs) (hN : N ≤ 90000) (hfew : ps.length ≤ 16) :
    Calls Try.prog 77 #[.agg #[sv], .slice ao m c, .int .i64 fr, .int .i64 tt, v.val, .bool back] w (ChgPost back rs ps zs fr tt v w) := by
  obtain ⟨po, pc, rfl, hpo⟩ := hp.row.form
  obtain ⟨n, hnn⟩ : ∃ n, n = rs.length := ⟨_, rfl⟩
  have hnp : n = ps.length := by rw [hnn]; exact hp.len
  have hrr : RRow w (.slice po n pc) rs := ⟨by rw [hnn]; exact hp.row, fun i hi => (hp.one i hi).1⟩
  have hone := hp.one
  rw [← hnn] at hpo ⊢
  obtain ⟨W, hW⟩ : ∃ W, W = ((w.alloc (.cells #[.slice po n pc] 67 (0, 0))).alloc (.cells v.cells 23 (0, 0))).alloc (.cells #[.slice none 0 0] 67 (0, 0)) := ⟨_, rfl⟩
  have hB0 : Below w.heap.size w W := by rw [hW]; exact below3w w _ _ _
  have p0 : W.heap[w.heap.size]? = some (.cells #[.slice po n pc] 67 (0, 0)) := by rw [hW]; exact blk_old _ (blk_old _ (blk_new _ _))
  have v0 : W.heap[w.heap.size + 1]? = some (.cells v.cells 23 (0, 0)) := by rw [hW]; exact blk_old _ (blk_at _ _ (by simp))
  have r0 : W.heap[w.heap.size + 1 + 1]? = some (.cells #[.slice none 0 0] 67 (0, 0)) := by rw [hW]; exact blk_at _ _ (by simp)
  have hga := rgang_any po n pc ao m c zs W (hz.below hB0 (Nat.le_refl _))
  rw [hW] at hga
  have bad : ∀ (r : Int) (wr : World), RChg back rs ps zs fr tt v r rs → wr.heap[w.heap.size + 1 + 1]? = some (.cells #[.slice none 0 0] 67 (0, 0)) → Below w.heap.size w wr →
      ChgPost back rs ps zs fr tt v w (.returned (.tuple #[.agg #[.slice po n pc], .int .i64 r])) (wr.setCell ⟨w.heap.size + 1 + 1, 0, none⟩ (.slice po n pc)) := fun r wr h1 h2 h3 =>
    ⟨r, .slice po n pc, rs, rfl, h1, (hrr.below h3 (Nat.le_refl _)).setQ h2 _, h3.setCell (by show w.heap.size ≤ w.heap.size + 1 + 1; omega) _⟩
  clear hp
  replace hz := Lib.hid hz; replace hone := Lib.hid hone; replace hrr := Lib.hid hrr; replace hB0 := Lib.hid hB0; replace p0 := Lib.hid p0; replace v0 := Lib.hid v0; replace r0 := Lib.hid r0; replace hga := Lib.hid hga; replace bad := Lib.hid bad
  replace hnn := Lib.hid hnn; replace hnp := Lib.hid hnp; replace hpo := Lib.hid hpo; replace hW := Lib.hid hW; replace hN := Lib.hid hN; replace hfew := Lib.hid hfew
  go_enter Try.func77, Try.ntmps77
  go_wp2_with fail
  refine hga.out.mono ?_
  rintro e w1 ⟨bg, rfl, hbg, hb1⟩
  rw [← hW.out] at hb1
  have p1 := blk_below hb1 p0.out (blk_lt p0.out)
  have v1 := blk_below hb1 v0.out (blk_lt v0.out)
  have r1 := blk_below hb1 r0.out (blk_lt r0.out)
  have hB1 : Below w.heap.size w w1 := hB0.out.trans (hb1.mono hB0.out.size)
  have x0 := blk_cell v1 0; have x1 := blk_cell v1 1; have x2 := blk_cell v1 2; have x3 := blk_cell v1 3
  simp at x0 x1 x2 x3
  have lv := blk_lt v1
  replace hbg := Lib.hid hbg; replace hb1 := Lib.hid hb1; replace p1 := Lib.hid p1; replace v1 := Lib.hid v1; replace r1 := Lib.hid r1; replace hB1 := Lib.hid hB1
  go_wp2_with fail
  refine (span6_any fr tt v w1).mono ?_
  rintro e w2 ⟨rfl, hb2⟩
  have hspan : (decide (0 ≤ fr) && decide (fr < tt) && decide (tt ≤ 1099511627776) && v.right) = spanL fr tt v := rfl
  rw [hspan]
  clear hspan
  have p2 := blk_below hb2 p1.out (blk_lt p1.out)
  have v2 := blk_below hb2 v1.out (blk_lt v1.out)
  have r2 := blk_below hb2 r1.out (blk_lt r1.out)
  have hB2 : Below w.heap.size w w2 := hB1.out.trans (hb2.mono hB1.out.size)
  have y0 := blk_cell p2 0; have y1 := blk_cell r2 0
  have fy := blk_free r2 0
  simp at y0 y1
  have lp := blk_lt p2; have lr := blk_lt r2
  clear x0 x1 x2 x3 lv
  replace hb2 := Lib.hid hb2; replace p2 := Lib.hid p2; replace v2 := Lib.hid v2; replace r2 := Lib.hid r2; replace hB2 := Lib.hid hB2
  cases bg with
  | false =>
    have hnog : ¬ Gang ps.length zs := fun h => by rw [← hnp.out] at h; have := hbg.out.2 h; cases this
    replace hnog := Lib.hid hnog
    go_wp2
    refine bodyPost_ret (v := .tuple #[.agg #[.slice po n pc], .int .i64 1]) (by simp [results, Try.results77, go_sem, y1]) rfl (bad.out 1 _ (.inl ⟨fun h => hnog.out h.1, rfl, rfl⟩) r2.out hB2.out)
  | true =>
  have hgang : Gang ps.length zs := by rw [← hnp.out]; exact hbg.out.1 rfl
  replace hgang := Lib.hid hgang
  cases hs : spanL fr tt v
  · replace hs := Lib.hid hs
    go_wp2
    refine bodyPost_ret (v := .tuple #[.agg #[.slice po n pc], .int .i64 1]) (by simp [results, Try.results77, go_sem, y1]) rfl (bad.out 1 _ (.inl ⟨fun h => (by rw [hs.out] at h; cases h.2), rfl, rfl⟩) r2.out hB2.out)
  replace hs := Lib.hid hs
  obtain ⟨Q, hQ⟩ : ∃ Q, Q = w2.heap.size := ⟨_, rfl⟩
  have hCW : CW w (.slice po n pc) v Q (.slice po n pc) (w2.alloc (.cells #[.slice po n pc] 67 (0, 0))) := by
    rw [hQ]
    exact ⟨blk_old _ p2.out, blk_old _ v2.out, blk_old _ r2.out, blk_new _ _, hB2.out.alloc hB2.out.size _⟩
  have hQl : w.heap.size + 1 + 1 < Q := by rw [hQ]; exact lr
  have hmax := hz.out.max
  have hlen := hz.out.len
  clear y1 fy lr
  replace hCW := Lib.hid hCW; replace hQl := Lib.hid hQl; replace hlen := Lib.hid hlen
  go_wp2
  rw [← hQ]
  replace hQ := Lib.hid hQ
  go_loopw [17, 18, 19] (fun i _ _ wr => ∃ (k : Nat) (svk : Value) (q : List Rp), i = .int .i64 k ∧ k ≤ m ∧ Hid (CW w (.slice po n pc) v Q svk wr) ∧ Hid (RRow wr svk q) ∧ Hid (ChK back rs ps zs fr tt v k q)) (fun i _ _ _ => m - (intOf i).toNat)
  case atStart => exact ⟨0, _, rs, rfl, Nat.zero_le _, hCW.out, hrr.out.below hCW.out.low (Nat.le_refl _), ChK.zero _ _ _ _ _ _ _⟩
  case round =>
    obtain ⟨k, svk, q, rfl, hk, hC, hRR, hK⟩ := hrel
    by_cases hc1 : k < m
    · have hc2 : (k : Int) < m := by omega
      have hk0 : (0 : Int) ≤ (k : Int) := by omega
      have hkz : k < zs.length := by rw [hlen.out]; exact hc1
      obtain ⟨b, off, rfl, lb0, a0⟩ := hz.out.cell k hc1
      obtain ⟨j, hj⟩ : ∃ j : Nat, zi zs k = (j : Int) := ⟨(zi zs k).toNat, by have := hgang.out.low k hkz; omega⟩
      have hjp : j < ps.length := by have := hgang.out.high k hkz; omega
      have hjr : j < rs.length := by rw [← hnn.out, hnp.out]; exact hjp
      rw [hj] at a0
      have b0 := (below_cell hC.out.low lb0).trans a0
      have lb : b < wr.heap.size := Nat.lt_of_lt_of_le lb0 hC.out.low.size
      clear a0 lb0
      obtain ⟨qo, qc, rfl, hqo⟩ := hRR.out.1.form
      obtain ⟨n2, hn2⟩ : ∃ n2, n2 = q.length := ⟨_, rfl⟩
      have hql : q.length = rs.length := hK.out.len
      have hj0 : (0 : Int) ≤ (j : Int) := by omega
      have hj1 : (j : Int) < n2 := by omega
      obtain ⟨gq, hgq, lgq⟩ := hqo (by omega)
      subst hgq
      rw [← hn2] at hC hRR
      obtain ⟨y, hy⟩ : ∃ y, y = rp q j := ⟨_, rfl⟩
      have hcells := hRR.out.1.cells hn2 (i := j) (by omega)
      have hyc := hRR.out.2 j (by omega)
      have hnew := gang_new hgang.out hkz hj
      obtain ⟨k1, k2, k3⟩ := hK.out.one j hjr
      replace k3 := k3 hnew
      obtain ⟨_, o2, o3, o4⟩ := hone.out j hjr
      rw [← k1, ← k3] at o3
      rw [← k3] at o4
      rw [← hy] at hcells hyc k1 k3 o3 o4
      obtain ⟨e0, e1, e2, e3, e4⟩ := hcells
      have g0 := blk_cell hC.out.q 0
      have x0 := blk_cell hC.out.v 0; have x1 := blk_cell hC.out.v 1; have x2 := blk_cell hC.out.v 2; have x3 := blk_cell hC.out.v 3
      simp at g0 x0 x1 x2 x3
      have lq := blk_lt hC.out.q; have lv := blk_lt hC.out.v
      have hS0 : Hid (∀ w', Below wr.heap.size wr w' → w'.cell? ⟨Q, 0, none⟩ = some (.slice (some ⟨gq, 0, none⟩) n2 qc) ∧ w'.cell? ⟨b, off + k, none⟩ = some (.int .i64 (j : Int)) ∧ w'.cell? ⟨gq, j * 5, none⟩ = some (.int .i64 y.whole.a) ∧ w'.cell? ⟨gq, j * 5 + 1, none⟩ = some (.int .i64 y.whole.b) ∧ w'.cell? ⟨gq, j * 5 + 2, none⟩ = some (.int .i64 y.whole.c) ∧ w'.cell? ⟨gq, j * 5 + 3, none⟩ = some (.int .i64 y.whole.d) ∧ w'.cell? ⟨gq, j * 5 + 4, none⟩ = some y.sv ∧ w'.cell? ⟨w.heap.size + 1, 0, none⟩ = some (.int .i64 v.a) ∧ w'.cell? ⟨w.heap.size + 1, 1, none⟩ = some (.int .i64 v.b) ∧ w'.cell? ⟨w.heap.size + 1, 2, none⟩ = some (.int .i64 v.c) ∧ w'.cell? ⟨w.heap.size + 1, 3, none⟩ = some (.int .i64 v.d)) := fun w' h =>
        ⟨(below_cell h lq).trans g0, (below_cell h lb).trans b0, (below_cell h lgq).trans e0, (below_cell h lgq).trans e1, (below_cell h lgq).trans e2, (below_cell h lgq).trans e3, (below_cell h lgq).trans e4, (below_cell h lv).trans x0, (below_cell h lv).trans x1, (below_cell h lv).trans x2, (below_cell h lv).trans x3⟩
      have hBd : Below wr.heap.size wr wr.drew := (Below.refl _ _).drew
      have hBz : Below wr.heap.size wr (wr.alloc (.cells #[.int .i64 0, .int .i64 0, .int .i64 0, .int .i64 0, .slice none 0 0] 119 (0, 0))).drew := ((Below.refl _ _).alloc (Nat.le_refl _) _).drew
      have htk : ∀ W', Below wr.heap.size wr W' → Calls Try.prog 105 #[pval y.whole y.sv, .int .i64 fr, .int .i64 tt, v.val] W' (RPost y.whole (RTaken y.cs (nd ps j).l fr tt v) W') :=
        fun W' h => rtake_any y.whole y.sv y.cs (nd ps j).l fr tt v W' (hyc.below h (Nat.le_refl _)) (by have := hN.out; omega) o3
      have hgvv : ∀ W', Below wr.heap.size wr W' → Calls Try.prog 106 #[pval y.whole y.sv, .int .i64 fr, .int .i64 tt, v.val] W' (RPost y.whole (RGiven y.whole y.cs (nd ps j).l fr tt v) W') :=
        fun W' h => rgive_any y.whole y.sv y.cs (nd ps j).l fr tt v W' (hyc.below h (Nat.le_refl _)) (by have := hN.out; omega) o3
      have hlast : ∀ i, i < n2 → (rp q i).sv.oneCell' = true := fun i hi => (hRR.out.2 i (by omega)).one
      have hamong : Among zs zs.length j := ⟨k, hkz, hj⟩
      clear k2 hqo
      replace hkz := Lib.hid hkz; replace hj := Lib.hid hj; replace hjp := Lib.hid hjp; replace hjr := Lib.hid hjr; replace hn2 := Lib.hid hn2; replace hql := Lib.hid hql; replace hy := Lib.hid hy; replace hyc := Lib.hid hyc; replace hnew := Lib.hid hnew
      replace k1 := Lib.hid k1; replace k3 := Lib.hid k3; replace o2 := Lib.hid o2; replace o3 := Lib.hid o3; replace o4 := Lib.hid o4; replace hBd := Lib.hid hBd; replace hBz := Lib.hid hBz; replace htk := Lib.hid htk; replace hgvv := Lib.hid hgvv; replace hlast := Lib.hid hlast; replace hamong := Lib.hid hamong
      go_upto_region 9 with fail
      go_cut [18, 19] from 35 to 82 (fun xv ev wx => XP wr y.whole (RTaken y.cs (nd ps j).l fr tt v) xv ev wx)
      case first =>
        go_region_held3 (fun w' => w'.cell? ⟨Q, 0, none⟩ = some (.slice (some ⟨gq, 0, none⟩) n2 qc) ∧ w'.cell? ⟨b, off + k, none⟩ = some (.int .i64 (j : Int)) ∧ w'.cell? ⟨gq, j * 5, none⟩ = some (.int .i64 y.whole.a) ∧ w'.cell? ⟨gq, j * 5 + 1, none⟩ = some (.int .i64 y.whole.b) ∧ w'.cell? ⟨gq, j * 5 + 2, none⟩ = some (.int .i64 y.whole.c) ∧ w'.cell? ⟨gq, j * 5 + 3, none⟩ = some (.int .i64 y.whole.d) ∧ w'.cell? ⟨gq, j * 5 + 4, none⟩ = some y.sv ∧ w'.cell? ⟨w.heap.size + 1, 0, none⟩ = some (.int .i64 v.a) ∧ w'.cell? ⟨w.heap.size + 1, 1, none⟩ = some (.int .i64 v.b) ∧ w'.cell? ⟨w.heap.size + 1, 2, none⟩ = some (.int .i64 v.c) ∧ w'.cell? ⟨w.heap.size + 1, 3, none⟩ = some (.int .i64 v.d))
          (first
            | with_reducible exact hS0.out _ hBd.out
            | with_reducible exact hS0.out _ hBz.out
            | with_reducible exact hS0.out _ hb5.out
            | with_reducible exact hS0.out _ (hb5.out.alloc hb5.out.size _)
            | with_reducible exact hS0.out _ (low5 hb5.out (Nat.le_refl _) _ _ _ _ _))
          (first
            | (go_at_call 105
               refine (htk.out _ hBd.out).mono ?_
               rintro e w5 ⟨r5, s5, c5, rfl, hR5, hc5, hb5⟩
               obtain ⟨ao5, cap5, rfl, _⟩ := hc5.form
               replace hb5 := Lib.hid (hBd.out.trans (hb5.mono hBd.out.size)); replace hR5 := Lib.hid hR5; replace hc5 := Lib.hid hc5)
            | (go_at_call 105
               refine (htk.out _ hBz.out).mono ?_
               rintro e w5 ⟨r5, s5, c5, rfl, hR5, hc5, hb5⟩
               obtain ⟨ao5, cap5, rfl, _⟩ := hc5.form
               have z5 : w5.heap[wr.heap.size]? = some (.cells #[.int .i64 0, .int .i64 0, .int .i64 0, .int .i64 0, .slice none 0 0] 119 (0, 0)) := blk_below hb5 (blk_new _ _) (by simp)
               obtain ⟨u0, u1, u2, u3, u4⟩ := rcells_at z5
               have f0 := blk_free z5 0; have f1 := blk_free z5 1; have f2 := blk_free z5 2; have f3 := blk_free z5 3; have f4 := blk_free z5 4
               replace z5 := Lib.hid z5
               replace hb5 := Lib.hid (hBz.out.trans (hb5.mono hBz.out.size)); replace hR5 := Lib.hid hR5; replace hc5 := Lib.hid hc5))
        · go_wp2_with fail
          go_meet
          exact ⟨⟨w5.heap.size, r5, _, c5, rfl, rfl, hR5.out, blk_new _ _, hc5.out.below ((Below.refl _ _).alloc (Nat.le_refl _) _) (Nat.le_refl _), hb5.out.size, hb5.out.alloc hb5.out.size _⟩⟩
        · go_wp2_with fail
          go_meet
          exact ⟨⟨wr.heap.size, r5, _, c5, rfl, rfl, hR5.out, set5p z5.out rfl _ _, hc5.out.set5 z5.out _ _ _ _ _, Nat.le_refl _, low5 hb5.out (Nat.le_refl _) _ _ _ _ _⟩⟩
      case rest =>
        obtain ⟨⟨X, r6, s6, c6, rfl, rfl, hR6, hX6, hc6, hXl, hb6⟩⟩ := hcut
        obtain ⟨x6o, x6c, rfl, _⟩ := hc6.out.form
        have hC6 := hC.out.below hb6.out
        have hRR6 := hRR.out.below hb6.out (Nat.le_refl _)
        cases back with
        | false =>
          have hBF : Hid (Below wr.heap.size wr wc) := hb6
          have hsy := rb_false (whole := y.whole) hs.out hR6.out
          have y0 := blk_cell hC6.p 0; have y1 := blk_cell hC6.r 0
          have fy := blk_free hC6.r 0
          simp at y0 y1
          have lp := blk_lt hC6.p; have lr := blk_lt hC6.r
          obtain ⟨u0, u1, u2, u3, u4⟩ := pcells_at hX6.out
          have lX := blk_lt hX6.out
          replace hC6 := Lib.hid hC6; replace hRR6 := Lib.hid hRR6
          rcases hsy with ⟨hno, rfl⟩ | ⟨hok, rfl, rfl⟩
          · have hfin : RChg false rs ps zs fr tt v 60 rs := .inr (.inl ⟨hgang.out, hs.out, fun h => hno (by rw [k1.out, o2.out]; exact h j hjp.out hamong.out), rfl, rfl⟩)
            replace hno := Lib.hid hno; replace hfin := Lib.hid hfin
            go_wp2
            refine bodyPost_ret (v := .tuple #[.agg #[.slice po n pc], .int .i64 60]) (by simp [results, Try.results77, go_sem, y1]) rfl (bad.out 60 _ hfin.out hC6.out.r hC6.out.low)
          · have hwi := rpwith_any (.slice (some ⟨gq, 0, none⟩) n2 qc) q j ⟨y.whole, .slice x6o (y.cs ++ [(⟨fr, tt, v, false⟩ : Ch)]).length x6c, y.cs ++ [⟨fr, tt, v, false⟩]⟩ wc.drew (hRR6.out.1.below (Below.refl _ _).drew (Nat.le_refl _)) (by have := hql.out; have := hjr.out; omega) (by have := hql.out; have := hfew.out; have := hnn.out; have := hnp.out; omega) (fun i hi => hlast.out i (by rw [hn2.out]; exact hi)) ⟨_, _, _, rfl⟩
            have hCd : CW w (.slice po n pc) v Q (.slice (some ⟨gq, 0, none⟩) n2 qc) wc.drew := hC6.out.below (Below.refl _ _).drew
            obtain ⟨M, hM⟩ : ∃ M, M = (y.cs ++ [(⟨fr, tt, v, false⟩ : Ch)]).length := ⟨_, rfl⟩
            rw [← hM] at hwi u4
            have lb6 : b < wc.heap.size := Nat.lt_of_lt_of_le lb hBF.out.size
            have lQ6 := blk_lt hC6.out.q
            have b6 := (below_cell hBF.out lb).trans b0
            have g6 := blk_cell hC6.out.q 0
            simp at g6
            replace hok := Lib.hid hok; replace hwi := Lib.hid hwi; replace hCd := Lib.hid hCd; replace hM := Lib.hid hM
            clear y0 y1 fy lp lr
            go_wp2_with fail
            go_region_with (go_at_call 107; refine hwi.out.mono ?_; rintro e w8 ⟨s8, rfl, hp8, hb8⟩; obtain ⟨o8, c8, rfl, _⟩ := hp8.form; have hC8 := hCd.out.below hb8; have g8 := blk_cell hC8.q 0; have f8 := blk_free hC8.q 0; simp at g8; have lQ8 := blk_lt hC8.q; have hset : (q.set j (⟨y.whole, .slice x6o M x6c, y.cs ++ [⟨fr, tt, v, false⟩]⟩ : Rp)).length = q.length := List.length_set; rw [hset] at hp8; replace hp8 := Lib.hid hp8; replace hb8 := Lib.hid hb8; replace hC8 := Lib.hid hC8; replace hset := Lib.hid hset)
            all_goals
              have hK9 : ChK false rs ps zs fr tt v (k + 1) (q.set j ⟨y.whole, .slice x6o M x6c, y.cs ++ [⟨fr, tt, v, false⟩]⟩) := hK.out.step hgang.out (by rw [← hnn.out, hnp.out]) hkz.out hj.out (by rw [← o2.out, ← k1.out]; exact hok.out) _ k1.out (by rw [← k3.out])
              have hb68 : Below wc.heap.size wc w8 := (Below.refl wc.heap.size wc).drew.trans hb8.out
              have hR8 : RRow w8 (.slice o8 q.length c8) (q.set j ⟨y.whole, .slice x6o M x6c, y.cs ++ [⟨fr, tt, v, false⟩]⟩) := by
                refine ⟨hp8.out, fun i hi => ?_⟩
                rw [List.length_set] at hi
                rw [rp_set _ (by have := hql.out; have := hjr.out; omega)]
                split
                · have := hc6.out.below hb68 (Nat.le_refl _)
                  rw [← hM.out] at this
                  exact this
                · exact (hRR6.out.2 i hi).below hb68 (Nat.le_refl _)
              replace hK9 := Lib.hid hK9; replace hR8 := Lib.hid hR8; replace hb68 := Lib.hid hb68
              go_wp2
              go_roundw
              case rel => exact ⟨k + 1, .slice o8 q.length c8, _, by go_num, by omega, hC8.out.set hQl.out _, hR8.out.setQ hC8.out.q _, hK9.out⟩
              case measure => simp [intOf]; omega
        | true =>
          obtain ⟨q1, q2, q3, q4, q5, q6, q7, q8, q9, q10, q11⟩ := hS0.out wc hb6.out
          have lXc := blk_lt hX6.out
          have hSc : Hid (∀ w', Below wr.heap.size wr w' → w'.cell? ⟨Q, 0, none⟩ = some (.slice (some ⟨gq, 0, none⟩) n2 qc) ∧ w'.cell? ⟨b, off + k, none⟩ = some (.int .i64 (j : Int)) ∧ w'.cell? ⟨gq, j * 5, none⟩ = some (.int .i64 y.whole.a) ∧ w'.cell? ⟨gq, j * 5 + 1, none⟩ = some (.int .i64 y.whole.b) ∧ w'.cell? ⟨gq, j * 5 + 2, none⟩ = some (.int .i64 y.whole.c) ∧ w'.cell? ⟨gq, j * 5 + 3, none⟩ = some (.int .i64 y.whole.d) ∧ w'.cell? ⟨gq, j * 5 + 4, none⟩ = some y.sv ∧ w'.cell? ⟨w.heap.size + 1, 0, none⟩ = some (.int .i64 v.a) ∧ w'.cell? ⟨w.heap.size + 1, 1, none⟩ = some (.int .i64 v.b) ∧ w'.cell? ⟨w.heap.size + 1, 2, none⟩ = some (.int .i64 v.c) ∧ w'.cell? ⟨w.heap.size + 1, 3, none⟩ = some (.int .i64 v.d)) := hS0
          have hBe : Below wr.heap.size wr wc.drew := hb6.out.drew
          have hBf : Below wc.heap.size wc wc.drew := (Below.refl _ _).drew
          obtain ⟨m0, m1, m2, m3, m4⟩ := pcells_at hX6.out
          have lq6 := Nat.lt_of_lt_of_le lq hb6.out.size; have lb6' := Nat.lt_of_lt_of_le lb hb6.out.size; have lg6 := Nat.lt_of_lt_of_le lgq hb6.out.size; have lv6 := Nat.lt_of_lt_of_le lv hb6.out.size
          replace hC6 := Lib.hid hC6; replace hRR6 := Lib.hid hRR6; replace hBe := Lib.hid hBe; replace hBf := Lib.hid hBf
          go_upto_region 11 with fail
          go_cut [19] from 35 to 82 (fun ev wx => XQ wr X y.whole (RGiven y.whole y.cs (nd ps j).l fr tt v) ev wx)
          case first =>
            go_region_held3 (fun w' => w'.cell? ⟨Q, 0, none⟩ = some (.slice (some ⟨gq, 0, none⟩) n2 qc) ∧ w'.cell? ⟨b, off + k, none⟩ = some (.int .i64 (j : Int)) ∧ w'.cell? ⟨gq, j * 5, none⟩ = some (.int .i64 y.whole.a) ∧ w'.cell? ⟨gq, j * 5 + 1, none⟩ = some (.int .i64 y.whole.b) ∧ w'.cell? ⟨gq, j * 5 + 2, none⟩ = some (.int .i64 y.whole.c) ∧ w'.cell? ⟨gq, j * 5 + 3, none⟩ = some (.int .i64 y.whole.d) ∧ w'.cell? ⟨gq, j * 5 + 4, none⟩ = some y.sv ∧ w'.cell? ⟨w.heap.size + 1, 0, none⟩ = some (.int .i64 v.a) ∧ w'.cell? ⟨w.heap.size + 1, 1, none⟩ = some (.int .i64 v.b) ∧ w'.cell? ⟨w.heap.size + 1, 2, none⟩ = some (.int .i64 v.c) ∧ w'.cell? ⟨w.heap.size + 1, 3, none⟩ = some (.int .i64 v.d))
              (first
                | with_reducible exact hS0.out _ hBe.out
                | with_reducible exact hS0.out _ hb5.out
                | with_reducible exact hS0.out _ (low5 hb5.out hXl.out _ _ _ _ _))
              (first
                | (go_at_call 106
                   refine (hgvv.out _ hBe.out).mono ?_
                   rintro e w5 ⟨r5, s5, c5, rfl, hR5, hc5, hb5⟩
                   obtain ⟨ao5, cap5, rfl, _⟩ := hc5.form
                   have hX5 := blk_below (hBf.out.trans (hb5.mono hBf.out.size)) hX6.out lXc
                   obtain ⟨u0, u1, u2, u3, u4⟩ := pcells_at hX5
                   have f0 := blk_free hX5 0; have f1 := blk_free hX5 1; have f2 := blk_free hX5 2; have f3 := blk_free hX5 3; have f4 := blk_free hX5 4
                   replace hX5 := Lib.hid hX5
                   replace hb5 := Lib.hid (hBe.out.trans (hb5.mono hBe.out.size)); replace hR5 := Lib.hid hR5; replace hc5 := Lib.hid hc5))
            go_wp2_with fail
            go_meet
            exact ⟨⟨r5, _, c5, rfl, hR5.out, set5p hX5.out rfl _ _, hc5.out.set5 hX5.out _ _ _ _ _, low5 hb5.out hXl.out _ _ _ _ _⟩⟩
          case rest =>
            obtain ⟨⟨r6, s6, c6, rfl, hR6, hX6, hc6, hb6⟩⟩ := hcut
            obtain ⟨x6o, x6c, rfl, _⟩ := hc6.out.form
            have hC6 := hC.out.below hb6.out
            have hRR6 := hRR.out.below hb6.out (Nat.le_refl _)
            have hBF : Hid (Below wr.heap.size wr wc) := hb6
            clear q1 q2 q3 q4 q5 q6 q7 q8 q9 q10 q11 m0 m1 m2 m3 m4 lq6 lb6' lg6 lv6
            have hsy := rb_true hs.out hR6.out
            have y0 := blk_cell hC6.p 0; have y1 := blk_cell hC6.r 0
            have fy := blk_free hC6.r 0
            simp at y0 y1
            have lp := blk_lt hC6.p; have lr := blk_lt hC6.r
            obtain ⟨u0, u1, u2, u3, u4⟩ := pcells_at hX6.out
            have lX := blk_lt hX6.out
            replace hC6 := Lib.hid hC6; replace hRR6 := Lib.hid hRR6
            rcases hsy with ⟨hno, rfl⟩ | ⟨hok, rfl, rfl⟩
            · have hfin : RChg true rs ps zs fr tt v 61 rs := .inr (.inl ⟨hgang.out, hs.out, fun h => hno (by rw [k1.out, o2.out]; exact h j hjp.out hamong.out), rfl, rfl⟩)
              replace hno := Lib.hid hno; replace hfin := Lib.hid hfin
              go_wp2
              refine bodyPost_ret (v := .tuple #[.agg #[.slice po n pc], .int .i64 61]) (by simp [results, Try.results77, go_sem, y1]) rfl (bad.out 61 _ hfin.out hC6.out.r hC6.out.low)
            · have hwi := rpwith_any (.slice (some ⟨gq, 0, none⟩) n2 qc) q j ⟨y.whole, .slice x6o (y.cs ++ [(⟨fr, tt, v, true⟩ : Ch)]).length x6c, y.cs ++ [⟨fr, tt, v, true⟩]⟩ wc.drew (hRR6.out.1.below (Below.refl _ _).drew (Nat.le_refl _)) (by have := hql.out; have := hjr.out; omega) (by have := hql.out; have := hfew.out; have := hnn.out; have := hnp.out; omega) (fun i hi => hlast.out i (by rw [hn2.out]; exact hi)) ⟨_, _, _, rfl⟩
              have hCd : CW w (.slice po n pc) v Q (.slice (some ⟨gq, 0, none⟩) n2 qc) wc.drew := hC6.out.below (Below.refl _ _).drew
              obtain ⟨M, hM⟩ : ∃ M, M = (y.cs ++ [(⟨fr, tt, v, true⟩ : Ch)]).length := ⟨_, rfl⟩
              rw [← hM] at hwi u4
              have lb6 : b < wc.heap.size := Nat.lt_of_lt_of_le lb hBF.out.size
              have lQ6 := blk_lt hC6.out.q
              have b6 := (below_cell hBF.out lb).trans b0
              have g6 := blk_cell hC6.out.q 0
              simp at g6
              replace hok := Lib.hid hok; replace hwi := Lib.hid hwi; replace hCd := Lib.hid hCd; replace hM := Lib.hid hM
              clear y0 y1 fy lp lr
              go_wp2_with fail
              go_region_with (go_at_call 107; refine hwi.out.mono ?_; rintro e w8 ⟨s8, rfl, hp8, hb8⟩; obtain ⟨o8, c8, rfl, _⟩ := hp8.form; have hC8 := hCd.out.below hb8; have g8 := blk_cell hC8.q 0; have f8 := blk_free hC8.q 0; simp at g8; have lQ8 := blk_lt hC8.q; have hset : (q.set j (⟨y.whole, .slice x6o M x6c, y.cs ++ [⟨fr, tt, v, true⟩]⟩ : Rp)).length = q.length := List.length_set; rw [hset] at hp8; replace hp8 := Lib.hid hp8; replace hb8 := Lib.hid hb8; replace hC8 := Lib.hid hC8; replace hset := Lib.hid hset)
              all_goals
                have hK9 : ChK true rs ps zs fr tt v (k + 1) (q.set j ⟨y.whole, .slice x6o M x6c, y.cs ++ [⟨fr, tt, v, true⟩]⟩) := hK.out.step hgang.out (by rw [← hnn.out, hnp.out]) hkz.out hj.out (by rw [← o2.out, ← k1.out]; exact hok.out) _ k1.out (by rw [← k3.out])
                have hb68 : Below wc.heap.size wc w8 := (Below.refl wc.heap.size wc).drew.trans hb8.out
                have hR8 : RRow w8 (.slice o8 q.length c8) (q.set j ⟨y.whole, .slice x6o M x6c, y.cs ++ [⟨fr, tt, v, true⟩]⟩) := by
                  refine ⟨hp8.out, fun i hi => ?_⟩
                  rw [List.length_set] at hi
                  rw [rp_set _ (by have := hql.out; have := hjr.out; omega)]
                  split
                  · have := hc6.out.below hb68 (Nat.le_refl _)
                    rw [← hM.out] at this
                    exact this
                  · exact (hRR6.out.2 i hi).below hb68 (Nat.le_refl _)
                replace hK9 := Lib.hid hK9; replace hR8 := Lib.hid hR8; replace hb68 := Lib.hid hb68
                go_wp2
                go_roundw
                case rel => exact ⟨k + 1, .slice o8 q.length c8, _, by go_num, by omega, hC8.out.set hQl.out _, hR8.out.setQ hC8.out.q _, hK9.out⟩
                case measure => simp [intOf]; omega
    · have hc2 : ¬ (k : Int) < m := by omega
      have hkm : k = zs.length := by rw [hlen.out]; omega
      obtain ⟨qo, qc, rfl, _⟩ := hRR.out.1.form
      obtain ⟨n2, hn2⟩ : ∃ n2, n2 = q.length := ⟨_, rfl⟩
      rw [← hn2] at hC hRR
      have y0 := blk_cell hC.out.q 0; have y1 := blk_cell hC.out.r 0
      have fy := blk_free hC.out.r 0
      simp at y0 y1
      have lq := blk_lt hC.out.q; have lr := blk_lt hC.out.r
      have hfin : RChg back rs ps zs fr tt v 0 q := by
        have h := hK.out
        rw [hkm] at h
        exact .inr (.inr ⟨hgang.out, hs.out, h.ok, rfl, h.len, h.one⟩)
      have hres := hRR.out.setQ hC.out.r (.slice qo n2 qc)
      replace hkm := Lib.hid hkm; replace hfin := Lib.hid hfin; replace hres := Lib.hid hres; replace hn2 := Lib.hid hn2
      go_wp2
      refine bodyPost_ret (v := .tuple #[.agg #[.slice qo n2 qc], .int .i64 0]) (by simp [results, Try.results77, go_sem, y1]) rfl ⟨0, _, q, rfl, hfin.out, hres.out, hC.out.low.setCell (by show w.heap.size ≤ w.heap.size + 1 + 1; omega) _⟩
end Go.Proofs.Ytpjajiambbobhaa
