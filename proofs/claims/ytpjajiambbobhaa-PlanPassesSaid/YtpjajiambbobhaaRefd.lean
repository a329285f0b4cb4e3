/- The document's pool: Open, Find, Right, New; it does what a pool does. Conditions: the rows lie in memory. -/
import Derived.Test.YtpjajiambbobhaaRefb
import Derived.Test.YtpjajiambbobhaaOpeng
import Derived.Test.YtpjajiambbobhaaRefc
import Derived.Test.YtpjajiambbobhaaNewg
import Derived.Deep.RegionLaw
import Derived.Test.YtpjajiambbobhaaGact
/- corveeref07.Pool.Open: the nodes of some that have an amount free. -/
namespace Go.Proofs.Ytpjajiambbobhaa
open Go.RowKit

theorem opnk_all (ps : List Nd) (zs : List Int) (v : V4) (fr tt : Int) : ∀ d, opnk ps zs v fr tt (ps.length + d) = opnk ps zs v fr tt ps.length
  | 0 => rfl
  | d + 1 => by
    rw [show ps.length + (d + 1) = (ps.length + d) + 1 by omega, opnk_succ, if_neg, opnk_all ps zs v fr tt d]
    intro h
    simp only [opick, Bool.and_eq_true, decide_eq_true_eq] at h
    omega

structure OpW (w : World) (sv : Value) (v : V4) (wr : World) : Prop where
  p : wr.heap[w.heap.size]? = some (.cells #[sv] 67 (0, 0))
  v : wr.heap[w.heap.size + 1]? = some (.cells v.cells 23 (0, 0))
  low : Below w.heap.size w wr
theorem OpW.below {w wr w' : World} {sv : Value} {v : V4} (h : OpW w sv v wr) (hb : Below wr.heap.size wr w') : OpW w sv v w' :=
  ⟨blk_below hb h.p (blk_lt h.p), blk_below hb h.v (blk_lt h.v), h.low.trans (hb.mono h.low.size)⟩

set_option maxRecDepth 100000 in
set_option maxHeartbeats 3200000 in
theorem ropen_any (sv : Value) (rs : List Rp) (ps : List Nd) (N : Nat) (ao : Option Addr) (m c : Nat) (zs : List Int) (fr tt : Int) (v : V4) (w : World) (hp : RPool w sv rs ps N) (hz : IntsAt w ao m zs) (hN : N ≤ 90000) (hfew : ps.length ≤ 16) :
    Calls Try.prog 78 #[.agg #[sv], .slice ao m c, .int .i64 fr, .int .i64 tt, v.val] w (OpenPost ps zs v fr tt w) := by
  obtain ⟨i3, hi3, hz3, hz31, hz32⟩ := info_parts info3
  obtain ⟨po, pc, rfl, hpo⟩ := hp.row.form
  obtain ⟨n, hnn⟩ : ∃ n, n = rs.length := ⟨_, rfl⟩
  have hnp : n = ps.length := by rw [hnn]; exact hp.len
  have hn16 : n ≤ 16 := by rw [hnp]; exact hfew
  rw [← hnn] at hpo hp ⊢
  obtain ⟨W, hW⟩ : ∃ W, W = (w.alloc (.cells #[.slice po n pc] 67 (0, 0))).alloc (.cells v.cells 23 (0, 0)) := ⟨_, rfl⟩
  have hO0 : OpW w (.slice po n pc) v W := by
    rw [hW]
    exact ⟨blk_old _ (blk_new _ _), blk_at _ _ (by simp), ((Below.refl _ _).alloc (Nat.le_refl _) _).alloc (by simp) _⟩
  have hsp := span6_any fr tt v W
  rw [hW] at hsp
  have hmax := hz.max
  have hlen := hz.len
  replace hp := Lib.hid hp; replace hz := Lib.hid hz; replace hO0 := Lib.hid hO0; replace hsp := Lib.hid hsp; replace hnn := Lib.hid hnn; replace hnp := Lib.hid hnp; replace hpo := Lib.hid hpo; replace hW := Lib.hid hW; replace hN := Lib.hid hN; replace hfew := Lib.hid hfew; replace hlen := Lib.hid hlen
  go_enter Try.func78, Try.ntmps78
  go_wp2_with fail
  refine hsp.out.mono ?_
  rintro e w5 ⟨rfl, hb5⟩
  rw [← hW.out] at hb5
  have hspan : (decide (0 ≤ fr) && decide (fr < tt) && decide (tt ≤ 1099511627776) && v.right) = spanL fr tt v := rfl
  rw [hspan]
  clear hspan
  have hO5 := hO0.out.below hb5
  have y0 := blk_cell hO5.p 0
  simp at y0
  have lp := blk_lt hO5.p
  replace hb5 := Lib.hid hb5; replace hO5 := Lib.hid hO5
  cases hs : spanL fr tt v
  · have hno : opn ps zs v fr tt = [] := by unfold opn; rw [if_neg (by rw [hs]; simp)]
    replace hs := Lib.hid hs; replace hno := Lib.hid hno
    go_wp2
    refine wp_loop_rounds 1 ?_
    rw [rounds_succ]
    by_cases hn0 : 0 < n
    · have hn1 : (0 : Int) < n := by omega
      go_wp2
      go_ret
      exact ⟨none, 0, 0, rfl, by rw [hno.out]; exact ints_nil _, Nat.le_refl _, (fun b off h => by simp at h), hO5.out.low⟩
    · have hn1 : ¬ (0 : Int) < n := by omega
      have hn2 : n = 0 := by omega
      go_wp2
      go_ret
      exact ⟨none, 0, 0, rfl, by rw [hno.out]; exact ints_nil _, Nat.le_refl _, (fun b off h => by simp at h), hO5.out.low⟩
  replace hs := Lib.hid hs
  clear y0 lp
  go_wp2
  go_loopw [12, 13, 14, 15, 16] (fun ov i _ _ _ wr => ∃ (k L : Nat) (xs : List Nat), i = .int .i64 k ∧ k ≤ n ∧ L ≤ k ∧ Hid (Below w5.heap.size w5 wr) ∧ Hid (OwnI wr w5.heap.size ov L xs) ∧ Hid (xs = opnk ps zs v fr tt k)) (fun _ i _ _ _ _ => n - (intOf i).toNat)
  case atStart => exact ⟨0, 0, [], rfl, by omega, Nat.le_refl _, Below.refl _ _, OwnI.nil _ _, rfl⟩
  case round =>
    obtain ⟨k, L, xs, rfl, hk, hLk, hB0, hown, hxs⟩ := hrel
    have hOr := hO5.out.below hB0.out
    have y0 := blk_cell hOr.p 0
    simp at y0
    have lp := blk_lt hOr.p
    by_cases hc1 : k < n
    · have hc2 : (k : Int) < n := by omega
      have hk0 : (0 : Int) ≤ (k : Int) := by omega
      obtain ⟨w0, hw0⟩ : ∃ w0, w0 = wr := ⟨_, rfl⟩
      have hB00 : Hid (Below w5.heap.size w5 w0) := by rw [hw0]; exact hB0
      replace hOr := Lib.hid hOr; replace hw0 := Lib.hid hw0
      go_wp2
      go_loopw [14, 15] (fun th i wx => ∃ (j : Nat) (b : Bool), i = .int .i64 j ∧ th = .bool b ∧ j ≤ m ∧ (Hid (b = true ↔ Among zs j k)) ∧ w0 = wx) (fun _ i _ => m - (intOf i).toNat)
      case atStart => exact ⟨0, false, rfl, rfl, Nat.zero_le _, ⟨fun h => (by cases h), fun ⟨j, hj, _⟩ => absurd hj (Nat.not_lt_zero _)⟩, hw0.out⟩
      case round =>
        obtain ⟨j, b, rfl, rfl, hj, hb, rfl⟩ := hrel
        by_cases hj1 : j < m
        · have hj2 : (j : Int) < m := by omega
          have hj0 : (0 : Int) ≤ (j : Int) := by omega
          obtain ⟨bb, off, rfl, lb0, a0⟩ := hz.out.cell j hj1
          have b0 := (below_cell (hO5.out.low.trans (hB00.out.mono hO5.out.low.size)) lb0).trans a0
          clear a0
          obtain ⟨x, hx⟩ : ∃ x, x = zi zs j := ⟨_, rfl⟩
          rw [← hx] at b0
          have hsu : ∀ b2 : Bool, (b2 = true ↔ (b = true ∨ x = (k : Int))) → (b2 = true ↔ Among zs (j + 1) k) := fun b2 h => by
            rw [h, hb.out]
            constructor
            · rintro (⟨i, hi, e⟩ | e)
              · exact ⟨i, by omega, e⟩
              · exact ⟨j, by omega, by rw [← hx]; exact e⟩
            · rintro ⟨i, hi, e⟩
              by_cases c : i = j
              · subst c; right; rw [hx]; exact e
              · exact .inl ⟨i, by omega, e⟩
          replace hx := Lib.hid hx; replace hsu := Lib.hid hsu
          cases b with
          | true =>
            go_wp2
            go_roundw
            case rel => exact ⟨j + 1, true, by go_num, rfl, by omega, hsu.out true ⟨fun _ => .inl rfl, fun _ => rfl⟩, trivial⟩
            case measure => simp [intOf]; omega
          | false =>
            by_cases q : x = (k : Int)
            · have d : (x == (k : Int)) = true := by simpa using q
              replace q := Lib.hid q
              go_wp2
              go_roundw
              case rel => exact ⟨j + 1, true, by go_num, rfl, by omega, hsu.out true ⟨fun _ => .inr q.out, fun _ => rfl⟩, trivial⟩
              case measure => simp [intOf]; omega
            · have d : (x == (k : Int)) = false := by simpa using q
              replace q := Lib.hid q
              go_wp2
              go_roundw
              case rel => exact ⟨j + 1, false, by go_num, rfl, by omega, hsu.out false ⟨fun h => (by cases h), fun h => (by rcases h with h | h; cases h; exact absurd h q.out)⟩, trivial⟩
              case measure => simp [intOf]; omega
        · have hj2 : ¬ (j : Int) < m := by omega
          have hjm : j = zs.length := by rw [hlen.out]; omega
          have hbz := hb.out
          rw [hjm] at hbz
          have hown0 := hown.out
          rw [← hw0.out] at hown0
          have hO := hO5.out.below hB00.out
          obtain ⟨gq, hgq, lgq0⟩ := hpo.out (by omega)
          subst hgq
          have hkr : k < rs.length := by rw [← hnn.out]; exact hc1
          have lgq : gq < w0.heap.size := Nat.lt_of_lt_of_le lgq0 hO.low.size
          have hrow := hp.out.row.below hO.low (Nat.le_refl _)
          have hcells := hrow.cells hnn.out hkr
          obtain ⟨o1, o2, o3, o4⟩ := hp.out.one k hkr
          obtain ⟨y, hy⟩ : ∃ y, y = rp rs k := ⟨_, rfl⟩
          rw [← hy] at hcells o1 o2 o3 o4
          obtain ⟨e0, e1, e2, e3, e4⟩ := hcells
          have g0 := blk_cell hO.p 0
          have x0 := blk_cell hO.v 0; have x1 := blk_cell hO.v 1; have x2 := blk_cell hO.v 2; have x3 := blk_cell hO.v 3
          simp at g0 x0 x1 x2 x3
          have lq := blk_lt hO.p; have lv := blk_lt hO.v
          have hS0 : Hid (∀ w', Below w0.heap.size w0 w' → w'.cell? ⟨w.heap.size + 1, 0, none⟩ = some (.int .i64 v.a) ∧ w'.cell? ⟨w.heap.size + 1, 1, none⟩ = some (.int .i64 v.b) ∧ w'.cell? ⟨w.heap.size + 1, 2, none⟩ = some (.int .i64 v.c) ∧ w'.cell? ⟨w.heap.size + 1, 3, none⟩ = some (.int .i64 v.d) ∧ w'.cell? ⟨w.heap.size, 0, none⟩ = some (.slice (some ⟨gq, 0, none⟩) n pc) ∧ w'.cell? ⟨gq, k * 5, none⟩ = some (.int .i64 y.whole.a) ∧ w'.cell? ⟨gq, k * 5 + 1, none⟩ = some (.int .i64 y.whole.b) ∧ w'.cell? ⟨gq, k * 5 + 2, none⟩ = some (.int .i64 y.whole.c) ∧ w'.cell? ⟨gq, k * 5 + 3, none⟩ = some (.int .i64 y.whole.d) ∧ w'.cell? ⟨gq, k * 5 + 4, none⟩ = some y.sv) := fun w' h =>
            ⟨(below_cell h lv).trans x0, (below_cell h lv).trans x1, (below_cell h lv).trans x2, (below_cell h lv).trans x3, (below_cell h lq).trans g0, (below_cell h lgq).trans e0, (below_cell h lgq).trans e1, (below_cell h lgq).trans e2, (below_cell h lgq).trans e3, (below_cell h lgq).trans e4⟩
          have hBd : Below w0.heap.size w0 w0.drew := (Below.refl _ _).drew
          have hfr := rfree_any y.whole y.sv y.cs (nd ps k).l fr tt w0.drew (o1.below (hO.low.trans (hBd.mono hO.low.size)) (Nat.le_refl _)) (by have := hN.out; omega) o3
          obtain ⟨F, hF⟩ : ∃ F, F = freeL y.whole (nd ps k).l fr tt := ⟨_, rfl⟩
          rw [← hF] at hfr
          have hpk : opick ps zs v fr tt k = (b && v.fits F) := by
            have hk2 : k < ps.length := by rw [← hnp.out]; exact hc1
            unfold opick
            rw [← o2, ← hF]
            congr 1
            rw [decide_eq_true hk2, Bool.true_and]
            rw [Bool.eq_iff_iff, decide_eq_true_iff]
            exact hbz.symm
          replace hown0 := Lib.hid hown0; replace hO := Lib.hid hO; replace hkr := Lib.hid hkr; replace hrow := Lib.hid hrow; replace o1 := Lib.hid o1; replace o2 := Lib.hid o2; replace o3 := Lib.hid o3; replace o4 := Lib.hid o4; replace hy := Lib.hid hy; replace hBd := Lib.hid hBd; replace hfr := Lib.hid hfr; replace hF := Lib.hid hF; replace hpk := Lib.hid hpk; replace hbz := Lib.hid hbz; replace hjm := Lib.hid hjm
          go_wp2_with fail
          go_region_held3 (fun w' => w'.cell? ⟨w.heap.size + 1, 0, none⟩ = some (.int .i64 v.a) ∧ w'.cell? ⟨w.heap.size + 1, 1, none⟩ = some (.int .i64 v.b) ∧ w'.cell? ⟨w.heap.size + 1, 2, none⟩ = some (.int .i64 v.c) ∧ w'.cell? ⟨w.heap.size + 1, 3, none⟩ = some (.int .i64 v.d) ∧ w'.cell? ⟨w.heap.size, 0, none⟩ = some (.slice (some ⟨gq, 0, none⟩) n pc) ∧ w'.cell? ⟨gq, k * 5, none⟩ = some (.int .i64 y.whole.a) ∧ w'.cell? ⟨gq, k * 5 + 1, none⟩ = some (.int .i64 y.whole.b) ∧ w'.cell? ⟨gq, k * 5 + 2, none⟩ = some (.int .i64 y.whole.c) ∧ w'.cell? ⟨gq, k * 5 + 3, none⟩ = some (.int .i64 y.whole.d) ∧ w'.cell? ⟨gq, k * 5 + 4, none⟩ = some y.sv)
            (first
              | with_reducible exact hS0.out _ hBd.out
              | with_reducible exact hS0.out _ hb8.out
              | with_reducible exact hS0.out _ hb7.out)
            (first
              | (go_at_call 80
                 refine hfr.out.mono ?_
                 rintro e w7 ⟨rfl, hb7⟩
                 replace hb7 := Lib.hid (hBd.out.trans (hb7.mono hBd.out.size)))
              | (go_at_call 28
                 refine (fits3_any v F w7).mono ?_
                 rintro e w8 ⟨rfl, hb8⟩
                 replace hb8 := Lib.hid (hb7.out.trans (hb8.mono hb7.out.size))))
          clear e0 e1 e2 e3 e4 g0 x0 x1 x2 x3 lq lv y0 lp
          have hB8 : Below w5.heap.size w5 w8 := hB00.out.trans (hb8.out.mono hB00.out.size)
          have hown8 := hown0.out.below hb8.out
          have s8 := hB8.size
          replace hB8 := Lib.hid hB8; replace hown8 := Lib.hid hown8
          have hskip : Hid ((b && v.fits F) = false → xs = opnk ps zs v fr tt (k + 1)) := fun h => by
            rw [opnk_succ, if_neg (by rw [hpk.out, h]; simp), hxs.out]
          have htake : Hid ((b && v.fits F) = true → xs ++ [k] = opnk ps zs v fr tt (k + 1)) := fun h => by
            rw [opnk_succ, if_pos (by rw [hpk.out, h]), hxs.out]
          cases b with
          | false =>
            have h9 := hskip.out rfl
            replace h9 := Lib.hid h9
            go_wp2
            go_roundw
            case rel => exact ⟨k + 1, L, xs, by go_num, by omega, by omega, hB8.out, hown8.out, h9.out⟩
            case measure => simp [intOf]; omega
          | true =>
            cases hfit : v.fits F
            · have h9 := hskip.out (by rw [hfit]; rfl)
              replace h9 := Lib.hid h9; replace hfit := Lib.hid hfit
              go_wp2
              go_roundw
              case rel => exact ⟨k + 1, L, xs, by go_num, by omega, by omega, hB8.out, hown8.out, h9.out⟩
              case measure => simp [intOf]; omega
            · have hxs2 := htake.out (by rw [hfit]; rfl)
              have hL16 : L < 16 := by have := hfew.out; have := hnp.out; omega
              have hownA := hown8.out.2.alloc (.cells #[.int .i64 (k : Int)] 3 (0, 0))
              have hnews := one_new w8 (k : Int)
              have hone1 : ∀ u ∈ ([.int .i64 (k : Int)] : List Value), u.oneCell' = true := by simp [Value.oneCell']
              have h63 : L + 1 ≤ maxLen := by
                have : maxLen = 9223372036854775807 := by kernel_rfl
                omega
              have hby : (L + 1) * 8 ≤ 140737488355328 := by omega
              have hbas := size_alloc s8 (.cells #[.int .i64 (k : Int)] 3 (0, 0))
              have hlt := hown8.out.2.lt
              have hxl := hown8.out.1
              replace hxs2 := Lib.hid hxs2; replace hfit := Lib.hid hfit; replace hownA := Lib.hid hownA; replace hnews := Lib.hid hnews; replace hone1 := Lib.hid hone1; replace h63 := Lib.hid h63; replace hby := Lib.hid hby; replace hbas := Lib.hid hbas; replace hlt := Lib.hid hlt; replace hxl := Lib.hid hxl
              go_wp2_with (at_builtin; refine wpList_append_own _ rfl _ _ 48 rfl w5.heap.size 3 i3 _ 1 8 Try.underlying48 hi3 hz3 hz31 hz32 rfl Nat.one_pos _ L _ rfl hownA.out ⟨w8.heap.size, 0, none⟩ 1 1 [.int .i64 (k : Int)] rfl rfl hnews.out hone1.out h63.out hby.out hbas.out ?_; intro v1 w9 hown9 hgrow _; obtain ⟨g, cap1, rfl⟩ := Joins.ownsRow_form hown9 (Nat.succ_pos _); replace hown9 := Lib.hid hown9; replace hgrow := Lib.hid hgrow)
              have hO9 : OwnI w9 w5.heap.size (.slice (some ⟨g, 0, none⟩) (L + 1) cap1) (L + 1) (xs ++ [k]) := ⟨by rw [List.length_append, ← hxl.out]; rfl, by simpa [ints] using hown9.out⟩
              have hB9 : Below w5.heap.size w5 w9 := (hB8.out.alloc s8 _).grown hgrow.out hbas.out (fun k hk => (hlt.out k hk).1)
              replace hO9 := Lib.hid hO9; replace hB9 := Lib.hid hB9
              go_roundw
              case rel => exact ⟨k + 1, L + 1, xs ++ [k], by go_num, by omega, by omega, hB9.out, hO9.out, hxs2.out⟩
              case measure => simp [intOf]; omega
    · have hc2 : ¬ (k : Int) < n := by omega
      have hkn : k = ps.length := by rw [← hnp.out]; omega
      have hx : xs = opn ps zs v fr tt := by
        unfold opn
        rw [if_pos hs.out, hxs.out, hkn, show (16 : Nat) = ps.length + (16 - ps.length) by have := hfew.out; omega, opnk_all]
      have hl5 := hO5.out.low
      have hL0 : L ≤ 9223372036854775807 := by have := hfew.out; have := hnp.out; omega
      replace hkn := Lib.hid hkn; replace hOr := Lib.hid hOr; replace hx := Lib.hid hx; replace hl5 := Lib.hid hl5
      have hown' := hown.out
      rcases Joins.ownsRow_forms hown'.2 with ⟨rfl, h0⟩ | ⟨g, cap1, rfl⟩
      · have hx0 : xs = [] := by have := hown'.1; rw [h0] at this; exact List.length_eq_zero_iff.1 this.symm
        replace hown' := Lib.hid hown'; replace h0 := Lib.hid h0; replace hx0 := Lib.hid hx0
        go_wp2
        go_ret
        refine ⟨none, 0, 0, rfl, ?_, Nat.le_refl _, (fun b off h => by simp at h), hOr.out.low⟩
        rw [← hx.out, hx0.out]; exact ints_nil _
      · obtain ⟨o1, o2, o3⟩ := hown'.at hL0
        replace hown' := Lib.hid hown'; replace o1 := Lib.hid o1; replace o2 := Lib.hid o2; replace o3 := Lib.hid o3
        go_wp2
        go_ret
        refine ⟨some ⟨g, 0, none⟩, L, cap1, rfl, ?_, o2.out, (fun b off e => by cases e; exact Nat.le_trans hl5.out.size o3.out), hOr.out.low⟩
        rw [← hx.out]; exact o1.out
end Go.Proofs.Ytpjajiambbobhaa

/- The document's search asks each tick at which something changes: the plain law. Plain theorems: no condition. -/
namespace Go.Proofs.Ytpjajiambbobhaa

def Tk (rs : List Rp) (F : Int) (j : Nat) (t : Int) : Prop := (F < 1099511627776 ∧ t = F) ∨ (F ≤ t ∧ t < 1099511627776 ∧ Met (rp rs j).cs (rp rs j).cs.length t)
def Cand (ps : List Nd) (zs : List Int) (M : Nat) (v : V4) (ticks t : Int) : Prop := t + ticks ≤ 1099511627776 ∧ M ≤ (sel ps zs ticks v t).length
structure BestP (ps : List Nd) (zs : List Int) (M : Nat) (v : V4) (ticks F : Int) (D : Int → Prop) (best : Int) (xs : List Nat) : Prop where
  either : (best = -1 ∧ xs = [] ∧ ∀ t, D t → ¬ Cand ps zs M v ticks t) ∨ (F ≤ best ∧ best < 1099511627776 ∧ Cand ps zs M v ticks best ∧ xs = (sel ps zs ticks v best).take M ∧ ∀ t, D t → Cand ps zs M v ticks t → best ≤ t)
section
variable {ps : List Nd} {zs : List Int} {M : Nat} {v : V4} {ticks F : Int} {D D' : Int → Prop} {best t : Int} {xs : List Nat}
theorem BestP.same (h : BestP ps zs M v ticks F D best xs) (hD : ∀ x, D' x → D x) : BestP ps zs M v ticks F D' best xs := by
  rcases h.either with ⟨a, b, c⟩ | ⟨a, b, c, d, e⟩
  · exact ⟨.inl ⟨a, b, fun x hx => c x (hD x hx)⟩⟩
  · exact ⟨.inr ⟨a, b, c, d, fun x hx => e x (hD x hx)⟩⟩
theorem BestP.skip (h : BestP ps zs M v ticks F D best xs) (hD : ∀ x, D' x → D x ∨ x = t) (hn : ¬ Cand ps zs M v ticks t ∨ (0 ≤ best ∧ best ≤ t)) : BestP ps zs M v ticks F D' best xs := by
  rcases h.either with ⟨a, b, c⟩ | ⟨a, b, c, d, e⟩
  · refine ⟨.inl ⟨a, b, fun x hx => ?_⟩⟩
    rcases hD x hx with hx | rfl
    · exact c x hx
    · rcases hn with hn | hn
      · exact hn
      · omega
  · refine ⟨.inr ⟨a, b, c, d, fun x hx hc => ?_⟩⟩
    rcases hD x hx with hx | rfl
    · exact e x hx hc
    · rcases hn with hn | hn
      · exact absurd hc hn
      · exact hn.2
theorem BestP.take (h : BestP ps zs M v ticks F D best xs) (hD : ∀ x, D' x → D x ∨ x = t) (ht : F ≤ t) (ht2 : t < 1099511627776) (hc : Cand ps zs M v ticks t) (hb : best < 0 ∨ t < best) (hF : 0 ≤ F) : BestP ps zs M v ticks F D' t ((sel ps zs ticks v t).take M) := by
  refine ⟨.inr ⟨ht, ht2, hc, rfl, fun x hx hcx => ?_⟩⟩
  rcases hD x hx with hx | rfl
  · rcases h.either with ⟨a, b, c⟩ | ⟨a, b, c, d, e⟩
    · exact absurd hcx (c x hx)
    · have := e x hx hcx
      omega
  · exact Int.le_refl _
end

/-- the first tick of those that would do is a tick at which something changes -/
theorem first_cand {rs : List Rp} {ps : List Nd} {zs : List Int} {M : Nat} {v : V4} {ticks F : Int} (hl : rs.length = ps.length) (hR : ∀ i, i < rs.length → RelC (rp rs i).whole (rp rs i).cs (nd ps i).l) (hM : 0 < M) (hF : 0 ≤ F) (h1 : 1 ≤ ticks) :
    ∀ (d : Nat) (u : Int), u = F + (d : Int) → u < 1099511627776 → M ≤ (sel ps zs ticks v u).length → ∃ t, F ≤ t ∧ t ≤ u ∧ Cand ps zs M v ticks t ∧ ∃ j, j < rs.length ∧ Tk rs F j t
  | 0, u, hu, hu2, h => by
    have : u = F := by omega
    subst this
    have hne : ∃ x, x ∈ sel ps zs ticks v u := by
      cases hs : sel ps zs ticks v u with
      | nil => rw [hs] at h; simp at h; omega
      | cons x r => exact ⟨x, by simp⟩
    obtain ⟨x, hx⟩ := hne
    obtain ⟨a, b, c⟩ := sel_mem hx
    exact ⟨u, Int.le_refl _, Int.le_refl _, ⟨c.2, h⟩, x, by omega, .inl ⟨hu2, rfl⟩⟩
  | d + 1, u, hu, hu2, h => by
    by_cases hp : M ≤ (sel ps zs ticks v (u - 1)).length
    · obtain ⟨t, a, b, c, e⟩ := first_cand hl hR hM hF h1 d (u - 1) (by omega) (by omega) hp
      exact ⟨t, a, by omega, c, e⟩
    · have hex : ∃ j, pick ps zs ticks v u j = true ∧ ¬ pick ps zs ticks v (u - 1) j = true := by
        apply Classical.byContradiction
        intro hc
        refine hp (Nat.le_trans h (sel_le fun j hj => ?_))
        apply Classical.byContradiction
        intro hn
        exact hc ⟨j, hj, hn⟩
      obtain ⟨j, hj, hn⟩ := hex
      simp only [pick, Bool.and_eq_true, decide_eq_true_eq] at hj hn
      obtain ⟨⟨j1, j2⟩, j3, j4⟩ := hj
      have hr := hR j (by omega)
      have hno : ¬ OkAt (nd ps j).l ticks v (u - 1) := fun hc => hn ⟨⟨j1, j2⟩, hc, by omega⟩
      rw [okAt_iff hr.inv.loose (by omega) h1] at j3 hno
      refine ⟨u, by omega, Int.le_refl _, ⟨j4, h⟩, j, by omega, ?_⟩
      apply Classical.byContradiction
      intro hc
      refine hno fun x hx hx2 => ?_
      by_cases e : x = u - 1
      · subst e
        have hs : val (nd ps j).l (u - 1) = val (nd ps j).l u := by
          rw [← hr.same (u - 1) (by omega) (by omega), ← hr.same u (by omega) (by omega)]
          refine atR_same fun i hi => ?_
          have n1 : (ch (rp rs j).cs i).fr ≠ u := fun e => hc (.inr ⟨by omega, hu2, i, hi, .inl e.symm⟩)
          have n2 : (ch (rp rs j).cs i).tt ≠ u := fun e => hc (.inr ⟨by omega, hu2, i, hi, .inr e.symm⟩)
          constructor <;> constructor <;> intro <;> omega
        rw [hs]
        exact j3 u (Int.le_refl _) (by omega)
      · exact j3 x (by omega) (by omega)
theorem sel_few (ps : List Nd) (zs : List Int) (ticks : Int) (v : V4) (u : Int) : (sel ps zs ticks v u).length ≤ 16 := by
  unfold sel selk
  have := List.length_filter_le (pick ps zs ticks v u) (List.range 16)
  simpa using this
/-- what is told when all ticks were asked -/
theorem BestP.done {rs : List Rp} {ps : List Nd} {zs : List Int} {M : Nat} {v : V4} {ticks after best : Int} {xs : List Nat} (hl : rs.length = ps.length) (hR : ∀ i, i < rs.length → RelC (rp rs i).whole (rp rs i).cs (nd ps i).l) (hM : 0 < M) (h1 : 1 ≤ ticks) (hv : v.right = true)
    (h : BestP ps zs M v ticks (max after 0) (fun t => ∃ j, j < rs.length ∧ Tk rs (max after 0) j t) best xs) : (best < 0 → FindRel ps zs (M : Int) v ticks after 0 [] false) ∧ (0 ≤ best → FindRel ps zs (M : Int) v ticks after best xs true ∧ xs.length = M) := by
  constructor
  · intro hb
    rcases h.either with ⟨a, b, c⟩ | ⟨a, b, c, d, e⟩
    · unfold FindRel
      rw [if_pos ⟨by omega, h1, hv⟩]
      refine .inr ⟨rfl, rfl, rfl, fun u u1 u2 => ?_⟩
      apply Classical.byContradiction
      intro hc
      obtain ⟨t, _, _, hcan, hj⟩ := first_cand (F := max after 0) (zs := zs) (v := v) (ticks := ticks) hl hR hM (by omega) h1 (u - max after 0).toNat u (by omega) u2 (by omega)
      exact c t hj hcan
    · omega
  · intro hb
    rcases h.either with ⟨a, b, c⟩ | ⟨a, b, c, d, e⟩
    · omega
    · have hlen : xs.length = M := by rw [d, List.length_take]; have := c.2; omega
      refine ⟨?_, hlen⟩
      unfold FindRel
      rw [if_pos ⟨by omega, h1, hv⟩]
      refine .inl ⟨rfl, a, b, by rw [hlen], ⟨(sel ps zs ticks v best).drop M, by rw [d, List.take_append_drop]⟩, fun u u1 u2 => ?_⟩
      apply Classical.byContradiction
      intro hc
      obtain ⟨t, _, t2, hcan, hj⟩ := first_cand (F := max after 0) (zs := zs) (v := v) (ticks := ticks) hl hR hM (by omega) h1 (u - max after 0).toNat u (by omega) (by omega) (by omega)
      have := e t hj hcan
      omega
end Go.Proofs.Ytpjajiambbobhaa

/- corveeref07.Pool.Find, walked. -/
namespace Go.Proofs.Ytpjajiambbobhaa
open Go.RowKit

structure GI (w wr : World) (ga : Option Addr) (gn gc : Nat) (xs : List Nat) : Prop where
  row : IntsAt wr ga gn (ints xs)
  le : gn ≤ gc
  new : ∀ b off, ga = some ⟨b, off, none⟩ → w.heap.size ≤ b
theorem GI.below {w wr w' : World} {ga : Option Addr} {gn gc : Nat} {xs : List Nat} (h : GI w wr ga gn gc xs) (hb : Below wr.heap.size wr w') : GI w w' ga gn gc xs := ⟨h.row.below hb (Nat.le_refl _), h.le, h.new⟩
theorem ints_take {w : World} {ga : Option Addr} {n : Nat} {xs : List Nat} (h : IntsAt w ga n (ints xs)) {M : Nat} (hM : M ≤ n) : IntsAt w ga M (ints (xs.take M)) := by
  have hl := h.len
  have hl2 : xs.length = n := by simpa [ints] using hl
  refine ⟨by simp [ints]; omega, by have := h.max; omega, fun i hi => ?_⟩
  obtain ⟨b, off, e, hlt, hc⟩ := h.cell i (by omega)
  refine ⟨b, off, e, hlt, ?_⟩
  rw [hc]
  simp [zi, ints, List.getD, hi]

set_option maxRecDepth 100000 in
set_option maxHeartbeats 6400000 in
theorem rfind_any (sv : Value) (rs : List Rp) (ps : List Nd) (N : Nat) (ao : Option Addr) (m c : Nat) (zs : List Int) (many : Int) (v : V4) (ticks after : Int) (w : World) (hp : RPool w sv rs ps N) (hz : IntsAt w ao m zs) (hN : N ≤ 90000) (hfew : ps.length ≤ 16) (hinv : ∀ i, i < ps.length → Inv (nd ps i).whole (nd ps i).l) :
    Calls Try.prog 79 #[.agg #[sv], .slice ao m c, .int .i64 many, v.val, .int .i64 ticks, .int .i64 after] w (FindPost ps zs many v ticks after w) := by
  obtain ⟨i3, hi3, hz3, hz31, hz32⟩ := info_parts info3
  obtain ⟨po, pc, rfl, hpo⟩ := hp.row.form
  obtain ⟨n, hnn⟩ : ∃ n, n = rs.length := ⟨_, rfl⟩
  have hnp : n = ps.length := by rw [hnn]; exact hp.len
  have hn16 : n ≤ 16 := by rw [hnp]; exact hfew
  rw [← hnn] at hpo hp ⊢
  obtain ⟨W, hW⟩ : ∃ W, W = (w.alloc (.cells #[.slice po n pc] 67 (0, 0))).alloc (.cells v.cells 23 (0, 0)) := ⟨_, rfl⟩
  have hO0 : OpW w (.slice po n pc) v W := by
    rw [hW]
    exact ⟨blk_old _ (blk_new _ _), blk_at _ _ (by simp), ((Below.refl _ _).alloc (Nat.le_refl _) _).alloc (by simp) _⟩
  have hri := right3_any v W
  rw [hW] at hri
  have bad : ¬ (1 ≤ many ∧ 1 ≤ ticks ∧ v.right = true) → ∀ w', Below w.heap.size w w' → FindPost ps zs many v ticks after w (.returned (.tuple #[.int .i64 0, .slice none 0 0, .bool false])) w' := fun h w' hb =>
    ⟨0, none, 0, 0, [], false, rfl, by unfold FindRel; rw [if_neg h]; exact ⟨rfl, rfl, rfl⟩, ints_nil _, Nat.le_refl _, fun b off h => by simp at h, hb⟩
  replace hp := Lib.hid hp; replace hz := Lib.hid hz; replace hO0 := Lib.hid hO0; replace hri := Lib.hid hri; replace bad := Lib.hid bad; replace hnn := Lib.hid hnn; replace hnp := Lib.hid hnp; replace hpo := Lib.hid hpo; replace hW := Lib.hid hW; replace hN := Lib.hid hN; replace hfew := Lib.hid hfew; replace hinv := Lib.hid hinv
  go_enter Try.func79, Try.ntmps79
  go_wp2_with fail
  refine hri.out.mono ?_
  rintro e w5 ⟨rfl, hb5⟩
  rw [← hW.out] at hb5
  have hO5 := hO0.out.below hb5
  replace hb5 := Lib.hid hb5; replace hO5 := Lib.hid hO5
  by_cases q1 : many < 1
  · have d1 : decide (many < 1) = true := by simpa using q1
    have hbad := bad.out (by omega) w5 hO5.out.low
    replace q1 := Lib.hid q1; replace hbad := Lib.hid hbad
    go_wp2
    go_ret3
    exact hbad.out
  have d1 : decide (many < 1) = false := by simpa using q1
  by_cases q2 : ticks < 1
  · have d2 : decide (ticks < 1) = true := by simpa using q2
    have hbad := bad.out (by omega) w5 hO5.out.low
    replace q1 := Lib.hid q1; replace q2 := Lib.hid q2; replace hbad := Lib.hid hbad
    go_wp2
    go_ret3
    exact hbad.out
  have d2 : decide (ticks < 1) = false := by simpa using q2
  cases q3 : v.right
  · have hbad := bad.out (fun h => by rw [q3] at h; cases h.2.2) w5 hO5.out.low
    replace q1 := Lib.hid q1; replace q2 := Lib.hid q2; replace q3 := Lib.hid q3; replace hbad := Lib.hid hbad
    go_wp2
    go_ret3
    exact hbad.out
  obtain ⟨M, rfl⟩ : ∃ M : Nat, many = (M : Int) := ⟨many.toNat, by omega⟩
  obtain ⟨F, hF⟩ : ∃ F, F = max after 0 := ⟨_, rfl⟩
  have hF0 : 0 ≤ F := by omega
  have hM1 : 0 < M := by omega
  have hticks : 1 ≤ ticks := by omega
  replace q1 := Lib.hid q1; replace q2 := Lib.hid q2; replace q3 := Lib.hid q3; replace hF := Lib.hid hF
  clear d1 d2
  go_wp2
  go_loopw [16, 17, 18, 19, 20, 21, 22] (fun bv gv i _ _ _ _ wr => ∃ (k : Nat) (best : Int) (ga : Option Addr) (gn gc : Nat) (xs : List Nat), i = .int .i64 k ∧ bv = .int .i64 best ∧ gv = .slice ga gn gc ∧ k ≤ n ∧ Hid (BestP ps zs M v ticks F (fun t => ∃ j, j < k ∧ Tk rs F j t) best xs) ∧ Hid (GI w wr ga gn gc xs) ∧ Hid (Below w5.heap.size w5 wr)) (fun _ _ i _ _ _ _ _ => n - (intOf i).toNat)
  case atStart => exact ⟨0, -1, none, 0, 0, [], rfl, rfl, rfl, Nat.zero_le _, ⟨.inl ⟨rfl, rfl, fun t ⟨j, hj, _⟩ => absurd hj (Nat.not_lt_zero _)⟩⟩, ⟨ints_nil _, Nat.le_refl _, fun b off h => by simp at h⟩, Below.refl _ _⟩
  case round =>
    obtain ⟨k, best, ga, gn, gc, xs, rfl, rfl, rfl, hk, hBe, hGI, hB0⟩ := hrel
    have hOr := hO5.out.below hB0.out
    have y0 := blk_cell hOr.p 0
    simp at y0
    have lp := blk_lt hOr.p
    by_cases hc1 : k < n
    · have hc2 : (k : Int) < n := by omega
      have hk0 : (0 : Int) ≤ (k : Int) := by omega
      obtain ⟨gq, hgq, lgq0⟩ := hpo.out (by omega)
      subst hgq
      have hkr : k < rs.length := by rw [← hnn.out]; exact hc1
      have lgq : gq < wr.heap.size := Nat.lt_of_lt_of_le lgq0 hOr.low.size
      have hcells := (hp.out.row.below hOr.low (Nat.le_refl _)).cells hnn.out hkr
      obtain ⟨o1, o2, o3, o4⟩ := hp.out.one k hkr
      obtain ⟨y, hy⟩ : ∃ y, y = rp rs k := ⟨_, rfl⟩
      rw [← hy] at hcells o1 o2 o3 o4
      obtain ⟨e0, e1, e2, e3, e4⟩ := hcells
      have htic := tic_any y.whole y.sv y.cs after 1099511627776 wr (o1.below hOr.low (Nat.le_refl _)) (by have := hN.out; omega)
      replace hOr := Lib.hid hOr; replace hkr := Lib.hid hkr; replace o1 := Lib.hid o1; replace o2 := Lib.hid o2; replace o3 := Lib.hid o3; replace o4 := Lib.hid o4; replace hy := Lib.hid hy; replace htic := Lib.hid htic
      go_wp2_with fail
      refine htic.out.mono ?_
      rintro e w7 ⟨s7, zT, rfl, hI7, hT7, hb7⟩
      have hB7 : Below w5.heap.size w5 w7 := hB0.out.trans (hb7.mono hB0.out.size)
      have hGI7 := hGI.out.below hb7
      obtain ⟨ta, tc, rfl, hLc, hcm, hao7⟩ := hI7.form
      obtain ⟨L, hL⟩ : ∃ L, L = zT.length := ⟨_, rfl⟩
      have hLn : L ≤ 9223372036854775807 := by omega
      rw [← hL] at hI7 hLc hao7 ⊢
      have hmem : ∀ t, t ∈ zT ↔ Tk rs F k t := fun t => by
        rw [hT7.1 t]
        unfold Tk
        rw [← hy.out, hF.out, show min (1099511627776 : Int) 1099511627776 = 1099511627776 from rfl]
      clear e0 e1 e2 e3 e4 y0 lp
      replace hI7 := Lib.hid hI7; replace hT7 := Lib.hid hT7; replace hb7 := Lib.hid hb7; replace hB7 := Lib.hid hB7; replace hGI7 := Lib.hid hGI7; replace hL := Lib.hid hL; replace hao7 := Lib.hid hao7; replace hmem := Lib.hid hmem
      go_wp2
      go_loopw [16, 17, 20, 21, 22] (fun bv gv i _ _ wx => ∃ (j : Nat) (best : Int) (ga : Option Addr) (gn gc : Nat) (xs : List Nat), i = .int .i64 j ∧ bv = .int .i64 best ∧ gv = .slice ga gn gc ∧ j ≤ L ∧ Hid (BestP ps zs M v ticks F (fun t => (∃ j, j < k ∧ Tk rs F j t) ∨ ∃ i, i < j ∧ zi zT i = t) best xs) ∧ Hid (GI w wx ga gn gc xs) ∧ Hid (Below w7.heap.size w7 wx)) (fun _ _ i _ _ _ => L - (intOf i).toNat)
      case atStart => exact ⟨0, best, ga, gn, gc, xs, rfl, rfl, rfl, Nat.zero_le _, hBe.out.same (fun x h => by rcases h with h | ⟨i, hi, _⟩; exact h; exact absurd hi (Nat.not_lt_zero _)), hGI7.out, Below.refl _ _⟩
      case round =>
        clear hBe hGI hGI7
        obtain ⟨j, best, ga, gn, gc, xs, rfl, rfl, rfl, hj, hBe, hGI, hB1⟩ := hrel
        have hB8 : Below w5.heap.size w5 wr := hB7.out.trans (hB1.out.mono hB7.out.size)
        have hOx := hO5.out.below hB8
        have hIx := hI7.out.below hB1.out (Nat.le_refl _)
        by_cases hj1 : j < L
        · have hj2 : (j : Int) < L := by omega
          have hj0 : (0 : Int) ≤ (j : Int) := by omega
          obtain ⟨tb, toff, te, tlt, b0⟩ := (hIx.ints hL.out hLn).cell j hj1
          obtain ⟨tg, te2, _⟩ := hao7.out (by omega)
          rw [te2] at te
          cases te
          subst te2
          rw [Nat.zero_add] at b0
          obtain ⟨x, hx⟩ : ∃ x, x = zi zT j := ⟨_, rfl⟩
          rw [← hx] at b0
          have hxT : Tk rs F k x := (hmem.out x).1 (mem_zi.2 ⟨j, by rw [← hL.out]; exact hj1, hx.symm⟩)
          have hxb : F ≤ x ∧ x < 1099511627776 := by rcases hxT with ⟨a, b⟩ | ⟨a, b, _⟩ <;> omega
          have hD : ∀ t, ((∃ j, j < k ∧ Tk rs F j t) ∨ ∃ i, i < j + 1 ∧ zi zT i = t) → ((∃ j, j < k ∧ Tk rs F j t) ∨ ∃ i, i < j ∧ zi zT i = t) ∨ t = x := fun t h => by
            rcases h with h | ⟨i, hi, e⟩
            · exact .inl (.inl h)
            · by_cases c : i = j
              · subst c; right; rw [hx]; exact e.symm
              · exact .inl (.inr ⟨i, by omega, e⟩)
          have e1 : IntKind.i64.wrap (1099511627776 - x) = 1099511627776 - x := IntWalk.i64_in _ (by omega)
          have y0 := blk_cell hOx.p 0
          have x0 := blk_cell hOx.v 0; have x1 := blk_cell hOx.v 1; have x2 := blk_cell hOx.v 2; have x3 := blk_cell hOx.v 3
          simp at y0 x0 x1 x2 x3
          have lp := blk_lt hOx.p; have lv := blk_lt hOx.v
          replace hx := Lib.hid hx; replace hxT := Lib.hid hxT; replace hD := Lib.hid hD; replace hB8 := Lib.hid hB8; replace hIx := Lib.hid hIx; replace hOx := Lib.hid hOx
          by_cases c1 : 0 ≤ best ∧ best ≤ x
          · have d1 : decide (0 ≤ best) = true := by simpa using c1.1
            have d2 : decide (best ≤ x) = true := by simpa using c1.2
            have hnx := hBe.out.skip (t := x) hD.out (.inr c1)
            replace c1 := Lib.hid c1; replace hnx := Lib.hid hnx; replace hxb := Lib.hid hxb
            go_wp2
            go_roundw
            case rel => exact ⟨j + 1, best, ga, gn, gc, xs, by go_num, rfl, rfl, by omega, hnx.out, hGI.out, hB1.out⟩
            case measure => simp [intOf]; omega
          by_cases c0 : 0 ≤ best
          · have d1 : decide (0 ≤ best) = true := by simpa using c0
            have d2 : decide (best ≤ x) = false := by simp; omega
            have hbx : best < 0 ∨ x < best := by omega
            replace c1 := Lib.hid c1; replace c0 := Lib.hid c0
            by_cases c2 : 1099511627776 - x < ticks
            · have d3 : decide (1099511627776 - x < ticks) = true := by simpa using c2
              have hnx := hBe.out.skip (t := x) hD.out (.inl fun h => by have := h.1; omega)
              replace c2 := Lib.hid c2; replace hnx := Lib.hid hnx; replace hxb := Lib.hid hxb; replace hbx := Lib.hid hbx
              go_wp2
              go_roundw
              case rel => exact ⟨j + 1, best, ga, gn, gc, xs, by go_num, rfl, rfl, by omega, hnx.out, hGI.out, hB1.out⟩
              case measure => simp [intOf]; omega
            have d3 : decide (1099511627776 - x < ticks) = false := by simpa using c2
            have e2 : IntKind.i64.wrap (x + ticks) = x + ticks := IntWalk.i64_in _ (by omega)
            have hop := ropen_any (.slice (some ⟨gq, 0, none⟩) n pc) rs ps N ao m c zs x (x + ticks) v wr (hp.out.below hOx.out.low (Nat.le_refl _)) (hz.out.below hOx.out.low (Nat.le_refl _)) hN.out hfew.out
            have hsel : opn ps zs v x (x + ticks) = sel ps zs ticks v x := opn_sel hinv.out q3.out (by omega) hticks (by omega)
            replace c2 := Lib.hid c2; replace hop := Lib.hid hop; replace hsel := Lib.hid hsel; replace hxb := Lib.hid hxb; replace hbx := Lib.hid hbx
            go_wp2_with fail
            refine hop.out.mono ?_
            rintro e w8 ⟨so, n8, c8, rfl, hz8, hnc8, hfr8, hb8⟩
            rw [hsel.out] at hz8
            have hn8 : n8 = (sel ps zs ticks v x).length := by rw [← hz8.len]; simp [ints]
            have hB9 : Below w7.heap.size w7 w8 := hB1.out.trans (hb8.mono hB1.out.size)
            have hGI8 := hGI.out.below hb8
            clear y0 x0 x1 x2 x3 lp lv
            by_cases c4 : M ≤ n8
            · have d4 : decide ((M : Int) ≤ (n8 : Int)) = true := by simp; omega
              have d5 : decide (M ≤ n8) = true := by simp; omega
              have hM0 : (0 : Int) ≤ (M : Int) := by omega
              obtain ⟨b8, off8, rfl, _, _⟩ := hz8.cell 0 (by omega)
              have hslT := fun W => slice_upto_g (w := W) Try.underlying48 hi3 ⟨b8, off8, none⟩ n8 c8 M (M : Int) rfl (by omega)
              have hnx := hBe.out.take (t := x) hD.out hxb.out.1 hxb.out.2 ⟨by have := c2.out; omega, by omega⟩ hbx.out hF0
              have hGI9 : GI w w8 (some ⟨b8, off8, none⟩) M c8 ((sel ps zs ticks v x).take M) := ⟨ints_take hz8 c4, by omega, fun b off h => by have := hfr8 b off h; have := hOx.out.low.size; omega⟩
              replace c4 := Lib.hid c4; replace hnx := Lib.hid hnx; replace hGI9 := Lib.hid hGI9; replace hz8 := Lib.hid hz8; replace hnc8 := Lib.hid hnc8; replace hfr8 := Lib.hid hfr8; replace hb8 := Lib.hid hb8; replace hn8 := Lib.hid hn8; replace hB9 := Lib.hid hB9; replace hGI8 := Lib.hid hGI8
              go_wp2
              go_roundw
              case rel => exact ⟨j + 1, x, some ⟨b8, off8, none⟩, M, c8, _, by go_num, rfl, rfl, by omega, hnx.out, hGI9.out, hB9.out⟩
              case measure => simp [intOf]; omega
            · have d4 : decide ((M : Int) ≤ (n8 : Int)) = false := by simp; omega
              have d5 : decide (M ≤ n8) = false := by simp; omega
              have hnx := hBe.out.skip (t := x) hD.out (.inl fun h => by have := h.2; omega)
              replace c4 := Lib.hid c4; replace hnx := Lib.hid hnx; replace hz8 := Lib.hid hz8; replace hnc8 := Lib.hid hnc8; replace hfr8 := Lib.hid hfr8; replace hb8 := Lib.hid hb8; replace hn8 := Lib.hid hn8; replace hB9 := Lib.hid hB9; replace hGI8 := Lib.hid hGI8
              go_wp2
              go_roundw
              case rel => exact ⟨j + 1, best, ga, gn, gc, xs, by go_num, rfl, rfl, by omega, hnx.out, hGI8.out, hB9.out⟩
              case measure => simp [intOf]; omega
          · have d1 : decide (0 ≤ best) = false := by simpa using c0
            have hbx : best < 0 ∨ x < best := by omega
            replace c1 := Lib.hid c1; replace c0 := Lib.hid c0
            by_cases c2 : 1099511627776 - x < ticks
            · have d3 : decide (1099511627776 - x < ticks) = true := by simpa using c2
              have hnx := hBe.out.skip (t := x) hD.out (.inl fun h => by have := h.1; omega)
              replace c2 := Lib.hid c2; replace hnx := Lib.hid hnx; replace hxb := Lib.hid hxb; replace hbx := Lib.hid hbx
              go_wp2
              go_roundw
              case rel => exact ⟨j + 1, best, ga, gn, gc, xs, by go_num, rfl, rfl, by omega, hnx.out, hGI.out, hB1.out⟩
              case measure => simp [intOf]; omega
            have d3 : decide (1099511627776 - x < ticks) = false := by simpa using c2
            have e2 : IntKind.i64.wrap (x + ticks) = x + ticks := IntWalk.i64_in _ (by omega)
            have hop := ropen_any (.slice (some ⟨gq, 0, none⟩) n pc) rs ps N ao m c zs x (x + ticks) v wr (hp.out.below hOx.out.low (Nat.le_refl _)) (hz.out.below hOx.out.low (Nat.le_refl _)) hN.out hfew.out
            have hsel : opn ps zs v x (x + ticks) = sel ps zs ticks v x := opn_sel hinv.out q3.out (by omega) hticks (by omega)
            replace c2 := Lib.hid c2; replace hop := Lib.hid hop; replace hsel := Lib.hid hsel; replace hxb := Lib.hid hxb; replace hbx := Lib.hid hbx
            go_wp2_with fail
            refine hop.out.mono ?_
            rintro e w8 ⟨so, n8, c8, rfl, hz8, hnc8, hfr8, hb8⟩
            rw [hsel.out] at hz8
            have hn8 : n8 = (sel ps zs ticks v x).length := by rw [← hz8.len]; simp [ints]
            have hB9 : Below w7.heap.size w7 w8 := hB1.out.trans (hb8.mono hB1.out.size)
            have hGI8 := hGI.out.below hb8
            clear y0 x0 x1 x2 x3 lp lv
            by_cases c4 : M ≤ n8
            · have d4 : decide ((M : Int) ≤ (n8 : Int)) = true := by simp; omega
              have d5 : decide (M ≤ n8) = true := by simp; omega
              have hM0 : (0 : Int) ≤ (M : Int) := by omega
              obtain ⟨b8, off8, rfl, _, _⟩ := hz8.cell 0 (by omega)
              have hslT := fun W => slice_upto_g (w := W) Try.underlying48 hi3 ⟨b8, off8, none⟩ n8 c8 M (M : Int) rfl (by omega)
              have hnx := hBe.out.take (t := x) hD.out hxb.out.1 hxb.out.2 ⟨by have := c2.out; omega, by omega⟩ hbx.out hF0
              have hGI9 : GI w w8 (some ⟨b8, off8, none⟩) M c8 ((sel ps zs ticks v x).take M) := ⟨ints_take hz8 c4, by omega, fun b off h => by have := hfr8 b off h; have := hOx.out.low.size; omega⟩
              replace c4 := Lib.hid c4; replace hnx := Lib.hid hnx; replace hGI9 := Lib.hid hGI9; replace hz8 := Lib.hid hz8; replace hnc8 := Lib.hid hnc8; replace hfr8 := Lib.hid hfr8; replace hb8 := Lib.hid hb8; replace hn8 := Lib.hid hn8; replace hB9 := Lib.hid hB9; replace hGI8 := Lib.hid hGI8
              go_wp2
              go_roundw
              case rel => exact ⟨j + 1, x, some ⟨b8, off8, none⟩, M, c8, _, by go_num, rfl, rfl, by omega, hnx.out, hGI9.out, hB9.out⟩
              case measure => simp [intOf]; omega
            · have d4 : decide ((M : Int) ≤ (n8 : Int)) = false := by simp; omega
              have d5 : decide (M ≤ n8) = false := by simp; omega
              have hnx := hBe.out.skip (t := x) hD.out (.inl fun h => by have := h.2; omega)
              replace c4 := Lib.hid c4; replace hnx := Lib.hid hnx; replace hz8 := Lib.hid hz8; replace hnc8 := Lib.hid hnc8; replace hfr8 := Lib.hid hfr8; replace hb8 := Lib.hid hb8; replace hn8 := Lib.hid hn8; replace hB9 := Lib.hid hB9; replace hGI8 := Lib.hid hGI8
              go_wp2
              go_roundw
              case rel => exact ⟨j + 1, best, ga, gn, gc, xs, by go_num, rfl, rfl, by omega, hnx.out, hGI8.out, hB9.out⟩
              case measure => simp [intOf]; omega
        · have hj2 : ¬ (j : Int) < L := by omega
          have hjL : j = zT.length := by rw [← hL.out]; omega
          have hnx := hBe.out.same (D' := fun t => ∃ j, j < k + 1 ∧ Tk rs F j t) (fun t h => by
            obtain ⟨i, hi, h2⟩ := h
            by_cases c : i = k
            · subst c
              obtain ⟨i2, hi2, e⟩ := mem_zi.1 ((hmem.out t).2 h2)
              exact .inr ⟨i2, by omega, e⟩
            · exact .inl ⟨i, by omega, h2⟩)
          replace hjL := Lib.hid hjL; replace hnx := Lib.hid hnx; replace hB8 := Lib.hid hB8; replace hOx := Lib.hid hOx; replace hIx := Lib.hid hIx
          go_wp2
          go_roundw
          case rel => exact ⟨k + 1, best, ga, gn, gc, xs, by go_num, rfl, rfl, by omega, hnx.out, hGI.out, hB8.out⟩
          case measure => simp [intOf]; omega
    · have hc2 : ¬ (k : Int) < n := by omega
      have hkn : k = rs.length := by rw [← hnn.out]; omega
      have hB := hBe.out
      rw [hkn, hF.out] at hB
      obtain ⟨h1, h2⟩ := hB.done hp.out.len (fun i hi => (hp.out.one i hi).2.2.1) hM1 hticks q3.out
      replace hkn := Lib.hid hkn; replace hB := Lib.hid hB; replace hOr := Lib.hid hOr
      by_cases cb : best < 0
      · have d1 : decide (best < 0) = true := by simpa using cb
        have hfin := h1 cb
        replace cb := Lib.hid cb; replace hfin := Lib.hid hfin
        clear h1 h2
        go_wp2
        go_ret3
        exact ⟨0, none, 0, 0, [], false, rfl, hfin.out, ints_nil _, Nat.le_refl _, (fun b off h => by simp at h), hOr.out.low⟩
      · have d1 : decide (best < 0) = false := by simpa using cb
        have hfin := (h2 (by omega)).1
        replace cb := Lib.hid cb; replace hfin := Lib.hid hfin
        clear h1 h2
        go_wp2
        go_ret3
        exact ⟨best, ga, gn, gc, xs, true, rfl, hfin.out, hGI.out.row, hGI.out.le, hGI.out.new, hOr.out.low⟩
end Go.Proofs.Ytpjajiambbobhaa

/- corveeref07.Right and New. -/
namespace Go.Proofs.Ytpjajiambbobhaa
open Go.RowKit

def RightPost (vs : List V4) (n : Nat) (w : World) (e : Ending) (w' : World) : Prop := ∃ b : Bool, e = .returned (.bool b) ∧ (b = true ↔ n ≤ 16 ∧ ∀ i, i < n → (vv vs i).right = true) ∧ Below w.heap.size w w'

set_option maxRecDepth 100000 in
set_option maxHeartbeats 800000 in
theorem rright_any (ao : Option Addr) (n c : Nat) (vs : List V4) (w : World) (hz : VecsAt w ao n vs) : Calls Try.prog 43 #[.slice ao n c] w (RightPost vs n w) := by
  have hmax := hz.max
  replace hz := Lib.hid hz
  by_cases q1 : 16 < n
  · have d1 : decide (16 < (n : Int)) = true := by simp; omega
    go_enter Try.func43, Try.ntmps43
    go_wp2
    go_ret
    exact ⟨false, rfl, ⟨fun h => (by simp at h), fun h => by omega⟩, Below.refl _ _⟩
  have d1 : decide (16 < (n : Int)) = false := by simp; omega
  replace q1 := Lib.hid q1
  go_enter Try.func43, Try.ntmps43
  go_wp2
  go_loopw [3, 4] (fun i _ wr => ∃ k : Nat, i = .int .i64 k ∧ k ≤ n ∧ Hid (∀ i, i < k → (vv vs i).right = true) ∧ Hid (Below w.heap.size w wr)) (fun i _ _ => n - (intOf i).toNat)
  case atStart => exact ⟨0, rfl, Nat.zero_le _, (fun i h => absurd h (Nat.not_lt_zero i)), Below.refl _ _⟩
  case round =>
    obtain ⟨k, rfl, hk, hall, hB⟩ := hrel
    by_cases hc : k < n
    · have hc1 : (k : Int) < n := by omega
      have hk0 : (0 : Int) ≤ (k : Int) := by omega
      obtain ⟨b, off, rfl, hb, a0, a1, a2, a3⟩ := hz.out.cell k hc
      have b0 := (below_cell hB.out hb).trans a0; have b1 := (below_cell hB.out hb).trans a1; have b2 := (below_cell hB.out hb).trans a2; have b3 := (below_cell hB.out hb).trans a3
      clear a0 a1 a2 a3
      obtain ⟨x, hx⟩ : ∃ x, x = vv vs k := ⟨_, rfl⟩
      rw [← hx] at b0 b1 b2 b3
      have s1 := hB.out.size
      replace hx := Lib.hid hx
      go_wp2_with fail
      refine (right3_any x wr).mono ?_
      rintro e w2 ⟨rfl, hb2⟩
      have hB2 := hB.out.trans (hb2.mono s1)
      replace hb2 := Lib.hid hb2; replace hB2 := Lib.hid hB2
      cases hr : x.right
      · have hno : ¬ (n ≤ 16 ∧ ∀ i, i < n → (vv vs i).right = true) := fun h => by
          have := h.2 k hc
          rw [← hx.out, hr] at this; cases this
        replace hr := Lib.hid hr; replace hno := Lib.hid hno
        go_wp2
        go_ret
        exact ⟨false, rfl, ⟨fun h => (by simp at h), fun h => absurd h hno.out⟩, hB2.out⟩
      · have hnext : ∀ i, i < k + 1 → (vv vs i).right = true := fun i hi => by
          by_cases e : i = k
          · subst e; rw [← hx.out]; exact hr
          · exact hall.out i (by omega)
        replace hr := Lib.hid hr; replace hnext := Lib.hid hnext
        go_wp2
        go_roundw
        case rel => exact ⟨k + 1, by go_num, by omega, hnext.out, hB2.out⟩
        case measure => simp [intOf]; omega
    · have hc1 : ¬ (k : Int) < n := by omega
      have hyes : n ≤ 16 ∧ ∀ i, i < n → (vv vs i).right = true := ⟨by have := q1.out; omega, fun i hi => hall.out i (by omega)⟩
      replace hyes := Lib.hid hyes
      go_wp2
      go_ret
      exact ⟨true, rfl, ⟨fun _ => hyes.out, fun _ => rfl⟩, hB.out⟩

theorem step_append_own1 {P : Program} {ops : Array Oper} {o : Oper} {a : Act} {w : World} {K : Act → World → Prop} {Q : Exit → Act → World → Prop} {E : Prop} (hgd : o.guard = none) (s x : Operand) (t : TypeId)
    (ho : o.op = .call { callee := .builtin .append, args := #[s, x], argTypes := #[t, t] })
    (base : Nat) (e : TypeId) (i : TypeInfo) (z : Value) (size bytes : Nat) (ht : P.underlying t = some (.slice e)) (hi : P.info? e = some i) (hz : i.zero = some z)
    (hsize : i.size = size) (hby : i.bytes = bytes) (hzs : z.cells.size = size) (hsz : 0 < size)
    (v : Value) (n : Nat) (xs : List Value) (hs : a.eval s = v) (hown : w.ownsRow base e size v n xs)
    (ad : Addr) (c : Nat) (news : List Value) (hx : a.eval x = .slice (some ad) 1 c) (hl : news.length = 1 * size) (hnews : ∀ j u, news[j]? = some u → w.cell? (ad.add j) = some u) (h1 : ∀ u ∈ news, u.oneCell' = true)
    (h63 : n + 1 ≤ maxLen) (hbytes : (n + 1) * bytes ≤ 140737488355328) (hbase : base ≤ w.heap.size)
    (h : ∀ g cap w', w'.ownsRow base e size (.slice (some ⟨g, 0, none⟩) (n + 1) cap) (n + 1) (xs ++ news) → w.grownBy w' v.ownBlock → K (a.put o.dst (.slice (some ⟨g, 0, none⟩) (n + 1) cap)) w') :
    if Region.wanted o (yielded ops a.tmps) = true then Oper.wp P o a w K Q else E := by
  have hw : Region.wanted o (yielded ops a.tmps) = true := by simp [Region.wanted, hgd]
  rw [if_pos hw]
  exact wp_append_own w s x t ho base e i z size bytes ht hi hz hsize hby hzs hsz v n xs hs hown ad 1 c news hx hl hnews h1 h63 hbytes hbase fun v' w' h2 h3 _ => by
    obtain ⟨g, cap, rfl⟩ := Joins.ownsRow_form h2 (Nat.succ_pos _)
    exact h g cap w' h2 h3

def newR (vs : List V4) (k : Nat) : List Rp := (List.range k).map fun i => ⟨vv vs i, .slice none 0 0, []⟩
theorem newR_length (vs : List V4) (k : Nat) : (newR vs k).length = k := by simp [newR]
theorem newR_succ (vs : List V4) (k : Nat) : newR vs (k + 1) = newR vs k ++ [⟨vv vs k, .slice none 0 0, []⟩] := by simp [newR, List.range_succ]
theorem newR_get (vs : List V4) {k i : Nat} (h : i < k) : rp (newR vs k) i = ⟨vv vs i, .slice none 0 0, []⟩ := by simp [rp, newR, List.getD, h]

def NewRPost (vs : List V4) (n : Nat) (w : World) (e : Ending) (w' : World) : Prop := ∃ sv, e = .returned (.agg #[sv]) ∧ PRow w' sv (newR vs n) ∧ Below w.heap.size w w'

set_option maxRecDepth 100000 in
set_option maxHeartbeats 3200000 in
theorem rnew_any (ao : Option Addr) (n c : Nat) (vs : List V4) (w : World) (hz : VecsAt w ao n vs) (hn : n ≤ 16) : Calls Try.prog 44 #[.slice ao n c] w (NewRPost vs n w) := by
  obtain ⟨i9, hi9, hz9, hz91, hz92⟩ := info_parts info119
  have s5 : 0 < 5 := by omega
  have hmax := hz.max
  have hB0 : Below w.heap.size w ((w.alloc (.cells #[.slice none 0 0] 67 (0, 0))).alloc (.cells #[.slice none 0 0] 67 (0, 0))) := ((Below.refl _ _).alloc (Nat.le_refl _) _).alloc (by simp) _
  have hr0 : ((w.alloc (.cells #[.slice none 0 0] 67 (0, 0))).alloc (.cells #[.slice none 0 0] 67 (0, 0))).heap[w.heap.size]? = some (.cells #[.slice none 0 0] 67 (0, 0)) := blk_old _ (blk_new _ _)
  have hp0 : ((w.alloc (.cells #[.slice none 0 0] 67 (0, 0))).alloc (.cells #[.slice none 0 0] 67 (0, 0))).heap[w.heap.size + 1]? = some (.cells #[.slice none 0 0] 67 (0, 0)) := blk_at _ _ (by simp)
  replace hz := Lib.hid hz; replace hB0 := Lib.hid hB0; replace hr0 := Lib.hid hr0; replace hp0 := Lib.hid hp0
  go_enter Try.func44, Try.ntmps44
  go_wp2
  go_loopw [4] (fun i wr => ∃ (k : Nat) (sv : Value), i = .int .i64 k ∧ k ≤ n ∧ Hid (wr.ownsRow (w.heap.size + 1 + 1) 119 5 sv k (flatP (newR vs k))) ∧ Hid (wr.heap[w.heap.size]? = some (.cells #[.slice none 0 0] 67 (0, 0))) ∧ Hid (wr.heap[w.heap.size + 1]? = some (.cells #[sv] 67 (0, 0))) ∧ Hid (Below w.heap.size w wr)) (fun i _ => n - (intOf i).toNat)
  case atStart => exact ⟨0, _, rfl, Nat.zero_le _, World.ownsRow_nil _ _ _ _, hr0.out, hp0.out, hB0.out⟩
  case round =>
    obtain ⟨k, sv, rfl, hk, hown, hr, hp, hB⟩ := hrel
    have p0 := blk_cell hp.out 0
    simp at p0
    have lp := blk_lt hp.out; have lr := blk_lt hr.out
    by_cases hc : k < n
    · have hc1 : (k : Int) < n := by omega
      have hk0 : (0 : Int) ≤ (k : Int) := by omega
      obtain ⟨b, off, rfl, hb, a0, a1, a2, a3⟩ := hz.out.cell k hc
      have b0 := (below_cell hB.out hb).trans a0; have b1 := (below_cell hB.out hb).trans a1; have b2 := (below_cell hB.out hb).trans a2; have b3 := (below_cell hB.out hb).trans a3
      clear a0 a1 a2 a3
      obtain ⟨x, hx⟩ : ∃ x, x = vv vs k := ⟨_, rfl⟩
      rw [← hx] at b0 b1 b2 b3
      have lb := Nat.lt_of_lt_of_le hb hB.out.size
      have hnewc : Hid ((pcells x (.slice none 0 0)) = pcells x (.slice none 0 0)) := rfl
      have hownA : Hid ((wr.alloc (.cells (pcells x (.slice none 0 0)) 119 (0, 0))).drew.ownsRow (w.heap.size + 1 + 1) 119 5 sv k (flatP (newR vs k))) := (World.ownsRow.alloc hown.out _)
      have hnews : Hid (∀ j u, (pcells x (.slice none 0 0)).toList[j]? = some u → (wr.alloc (.cells (pcells x (.slice none 0 0)) 119 (0, 0))).drew.cell? ((⟨wr.heap.size, 0, none⟩ : Addr).add j) = some u) := new_cells wr _ 119
      have hone1 : Hid (∀ u ∈ (pcells x (.slice none 0 0)).toList, u.oneCell' = true) := by
        show ∀ u ∈ (pcells x (.slice none 0 0)).toList, u.oneCell' = true
        simp [Value.oneCell']
      have h63 : Hid (k + 1 ≤ maxLen) := by
        show k + 1 ≤ maxLen
        have : maxLen = 9223372036854775807 := by kernel_rfl
        omega
      have hby : Hid ((k + 1) * 56 ≤ 140737488355328) := by show (k + 1) * 56 ≤ _; omega
      have hbas : Hid (w.heap.size + 1 + 1 ≤ (wr.alloc (.cells (pcells x (.slice none 0 0)) 119 (0, 0))).drew.heap.size) := size_alloc (B := w.heap.size + 1 + 1) (by omega) _
      have hrA : Hid ((wr.alloc (.cells (pcells x (.slice none 0 0)) 119 (0, 0))).drew.heap[w.heap.size]? = some (.cells #[.slice none 0 0] 67 (0, 0))) := blk_old _ hr.out
      have hpA : Hid ((wr.alloc (.cells (pcells x (.slice none 0 0)) 119 (0, 0))).drew.heap[w.heap.size + 1]? = some (.cells #[sv] 67 (0, 0))) := blk_old _ hp.out
      have hBA : Hid (Below w.heap.size w (wr.alloc (.cells (pcells x (.slice none 0 0)) 119 (0, 0))).drew) := (hB.out.alloc hB.out.size _).drew
      have hl0 : w.heap.size < w.heap.size + 1 + 1 := by omega
      have hl1 : w.heap.size + 1 < w.heap.size + 1 + 1 := by omega
      have hrl : Hid (∀ k, sv.ownBlock = some k → w.heap.size + 1 + 1 ≤ k) := fun k hk => (World.ownsRow.lt hown.out k hk).1
      clear hnewc
      replace hx := Lib.hid hx
      go_wp2_with fail
      go_region_law
        (first
          | (refine step_append_own1 (by rfl) _ _ _ (by rfl) (w.heap.size + 1 + 1) 119 i9 _ 5 56 Try.underlying65 hi9 hz9 hz91 hz92 rfl s5 sv k _ (by rfl) hownA.out ⟨wr.heap.size, 0, none⟩ 1 (pcells x (.slice none 0 0)).toList (by rfl) (by rfl) hnews.out hone1.out h63.out hby.out hbas.out ?_
             intro g2 cap2 w3 hown3 hgrow3
             have hG3 := (Below.refl (w.heap.size + 1 + 1) _).grown hgrow3 hbas.out hrl.out
             have hB3 := hBA.out.trans (hG3.mono (Nat.le_of_lt hl0))
             have hr3 := blk_below hG3 hrA.out hl0
             have hp3 := blk_below hG3 hpA.out hl1
             have g3 := blk_cell hp3 0
             have f3 := blk_free hp3 0
             simp at g3
             have lp3 := blk_lt hp3
             replace hG3 := Lib.hid hG3; replace hB3 := Lib.hid hB3; replace hr3 := Lib.hid hr3; replace hp3 := Lib.hid hp3; replace hown3 := Lib.hid hown3; replace hgrow3 := Lib.hid hgrow3))
      all_goals
        have hnew : w3.ownsRow (w.heap.size + 1 + 1) 119 5 (.slice (some ⟨g2, 0, none⟩) (k + 1) cap2) (k + 1) (flatP (newR vs (k + 1))) := by
          rw [newR_succ, flatP_append, flatP_one, ← hx.out]
          exact hown3.out
        have hres := owns_setT hnew hp3.out (by decide) 0 (.slice (some ⟨g2, 0, none⟩) (k + 1) cap2)
        replace hnew := Lib.hid hnew; replace hres := Lib.hid hres
        go_wp2
        go_roundw
        case rel => exact ⟨k + 1, .slice (some ⟨g2, 0, none⟩) (k + 1) cap2, by go_num, by omega, hres.out, blk_set_other (by omega) _ hr3.out, (by show _ = _; rw [blk_set hp3.out]; rfl), hB3.out.setCell (Nat.le_succ _) _⟩
        case measure => simp [intOf]; omega
    · have hc1 : ¬ (k : Int) < n := by omega
      have hkn : k = n := by omega
      subst hkn
      have r0 := blk_cell hr.out 0
      have fr0 := blk_free hr.out 0
      simp at r0
      obtain ⟨ao2, cap2, hsv⟩ : ∃ ao2 cap2, sv = .slice ao2 k cap2 := by
        rcases Joins.ownsRow_forms hown.out with ⟨rfl, h0⟩ | ⟨g, cap, rfl⟩
        · exact ⟨none, 0, by rw [h0]⟩
        · exact ⟨_, cap, rfl⟩
      subst hsv
      have hres := owns_setT hown.out hr.out (by decide) 0 (.slice ao2 k cap2)
      replace hres := Lib.hid hres
      go_wp2
      refine bodyPost_ret (v := .agg #[.slice ao2 k cap2]) (by simp [results, Try.results44, go_sem, r0]) rfl ⟨_, rfl, ?_, hB.out.setCell (Nat.le_refl _) _⟩
      unfold PRow
      rw [newR_length]
      exact owns_mono hres.out (Nat.zero_le _)
end Go.Proofs.Ytpjajiambbobhaa

/- A pool and the document's pool do the same: the plain law; what stays of the document's pool when a pool's nodes turn. -/
namespace Go.Proofs.Ytpjajiambbobhaa
open Go.RowKit

theorem owns_mod {w w' : World} {gb gs cap size n : Nat} {po : Option Addr} {ps : List Nd} {e : TypeId} {v : Value} {xs : List Value} (h : w.ownsRow 0 e size v n xs) (hp : Pool w gb gs po cap ps) (hm : Mod (Mine ps) w w') (h1 : e ≠ 102) (h2 : e ≠ 43) : w'.ownsRow 0 e size v n xs := by
  obtain ⟨a, b⟩ := h
  refine ⟨a, ?_⟩
  rcases b with b | ⟨g, cp, cur, hv, hg, hh, hr⟩
  · exact .inl b
  · refine .inr ⟨g, cp, cur, hv, hg, (hm.block g (blk_lt hh) ?_).trans hh, hr⟩
    rintro ⟨i, hi, c | c⟩
    · have := (hp.prof i hi).head
      rw [← c, hh] at this
      simp at this
      exact h1 this.2
    · obtain ⟨cur2, h3, _⟩ := (hp.prof i hi).row.blk
      rw [← c, hh] at h3
      simp at h3
      exact h2 h3.2
theorem RPool.mod {w w' : World} {sv : Value} {rs : List Rp} {ps qs : List Nd} {N gb gs cap : Nat} {po : Option Addr} (h : RPool w sv rs qs N) (hp : Pool w gb gs po cap ps) (hm : Mod (Mine ps) w w') : RPool w' sv rs qs N :=
  ⟨owns_mod h.row hp hm (by decide) (by decide), h.len, fun i hi => ⟨owns_mod (h.one i hi).1 hp hm (by decide) (by decide), (h.one i hi).2⟩⟩

/-- the document's nodes tell what the nodes tell -/
structure Twin (rs : List Rp) (ps : List Nd) (N : Nat) : Prop where
  len : rs.length = ps.length
  one : ∀ i, i < rs.length → (rp rs i).whole = (nd ps i).whole ∧ RelC (rp rs i).whole (rp rs i).cs (nd ps i).l ∧ (rp rs i).cs.length ≤ N
theorem RPool.twin {w : World} {sv : Value} {rs : List Rp} {ps : List Nd} {N : Nat} (h : RPool w sv rs ps N) : Twin rs ps N := ⟨h.len, fun i hi => (h.one i hi).2⟩
theorem Twin.pool {w : World} {sv : Value} {rs : List Rp} {ps : List Nd} {N : Nat} (h : Twin rs ps N) (hr : RRow w sv rs) : RPool w sv rs ps N := ⟨hr.1, h.len, fun i hi => ⟨hr.2 i hi, h.one i hi⟩⟩
theorem RPool.rows {w : World} {sv : Value} {rs : List Rp} {ps : List Nd} {N : Nat} (h : RPool w sv rs ps N) : RRow w sv rs := ⟨h.row, fun i hi => (h.one i hi).1⟩

theorem relC_app {whole : V4} {cs : List Ch} {l l' : List St} {fr tt : Int} {v : V4} {back : Bool} (h : RelC whole cs l) (hs : spanL fr tt v = true) (hi : Inv whole l')
    (hv : ∀ u, 0 ≤ u → u < 1099511627776 → val l' u = if fr ≤ u ∧ u < tt then (if back = true then add4 (val l u) v else sub4 (val l u) v) else val l u) : RelC whole (cs ++ [⟨fr, tt, v, back⟩]) l' := by
  obtain ⟨b1, b2, b3, b4⟩ := spanL_true hs
  refine ⟨hi, fair_app h.fair ⟨b4, b1, b2, b3⟩, fun u u0 u1 => ?_⟩
  rw [atR_app, h.same u u0 u1, hv u u0 u1]
  unfold stepC
  by_cases c : fr ≤ u ∧ u < tt
  · rw [if_pos c, if_neg (by simp only; omega)]
  · rw [if_neg c, if_pos (by simp only; omega)]

theorem took_chg {rs rs' : List Rp} {ps ps' : List Nd} {N : Nat} {zs : List Int} {fr tt r r' : Int} {v : V4} (h : Twin rs ps N) (hlen : ps'.length = ps.length) (hw : ∀ i, i < ps.length → (nd ps' i).whole = (nd ps i).whole) (hi : ∀ i, i < ps'.length → Inv (nd ps' i).whole (nd ps' i).l)
    (ht : TookG ps zs fr tt v r ps') (hc : RChg false rs ps zs fr tt v r' rs') : r = r' ∧ Twin rs' ps' (N + 1) := by
  have hl := h.len
  have hok : (∀ i, i < ps.length → Among zs zs.length i → OkS false (nd ps i).whole (nd ps i).l fr tt v) ↔ (∀ i, i < ps.length → Among zs zs.length i → ∀ u, fr ≤ u → u < tt → v.leq (val (nd ps i).l u)) := by
    constructor
    · intro a i b c; simpa [OkS] using a i b c
    · intro a i b c; simpa [OkS] using a i b c
  have keep : SameL ps ps' → Twin rs ps' (N + 1) := fun hs => ⟨by omega, fun i hi2 => by
    obtain ⟨a, b, c⟩ := h.one i hi2
    rw [hw i (by omega), hs i (by omega)]
    exact ⟨a, b, by omega⟩⟩
  unfold RChg at hc
  rw [hok] at hc
  rcases ht with ⟨a, rfl, c⟩ | ⟨a, b, c, rfl, d⟩ | ⟨a, b, c, rfl, d⟩
  · rcases hc with ⟨_, rfl, rfl⟩ | ⟨x, y, _⟩ | ⟨x, y, _⟩
    · exact ⟨rfl, keep c⟩
    · exact absurd ⟨x, y⟩ a
    · exact absurd ⟨x, y⟩ a
  · rcases hc with ⟨x, _⟩ | ⟨_, _, _, rfl, rfl⟩ | ⟨_, _, x, _⟩
    · exact absurd ⟨a, b⟩ x
    · exact ⟨rfl, keep d⟩
    · exact absurd x c
  · rcases hc with ⟨x, _⟩ | ⟨_, _, x, _⟩ | ⟨_, _, _, rfl, hl2, hall⟩
    · exact absurd ⟨a, b⟩ x
    · exact absurd c x
    · refine ⟨rfl, by omega, fun i hi2 => ?_⟩
      rw [hl2] at hi2
      obtain ⟨e1, e2, e3⟩ := hall i hi2
      obtain ⟨o1, o2, o3⟩ := h.one i hi2
      have hw2 := hw i (by omega)
      have hi3 := hi i (by omega)
      rw [e1, hw2]
      refine ⟨o1, ?_, ?_⟩
      · by_cases hm : Among zs zs.length i
        · rw [e2 hm]
          refine relC_app o2 b (by rw [o1, ← hw2]; exact hi3) fun u u0 u1 => ?_
          rw [(d i (by omega)).1 hm u u0 u1]
          simp
        · rw [e3 hm, (d i (by omega)).2 hm]
          exact o2
      · by_cases hm : Among zs zs.length i
        · rw [e2 hm, List.length_append]; simp; omega
        · rw [e3 hm]; omega

theorem gave_chg {rs rs' : List Rp} {ps ps' : List Nd} {N : Nat} {zs : List Int} {fr tt r r' : Int} {v : V4} (h : Twin rs ps N) (hlen : ps'.length = ps.length) (hw : ∀ i, i < ps.length → (nd ps' i).whole = (nd ps i).whole) (hi : ∀ i, i < ps'.length → Inv (nd ps' i).whole (nd ps' i).l)
    (ht : GaveG ps zs fr tt v r ps') (hc : RChg true rs ps zs fr tt v r' rs') : r = r' ∧ Twin rs' ps' (N + 1) := by
  have hl := h.len
  have hok : (∀ i, i < ps.length → Among zs zs.length i → OkS true (nd ps i).whole (nd ps i).l fr tt v) ↔ (∀ i, i < ps.length → Among zs zs.length i → ∀ u, fr ≤ u → u < tt → (add4 (val (nd ps i).l u) v).leq (nd ps i).whole) := by
    constructor
    · intro a i b c; simpa [OkS] using a i b c
    · intro a i b c; simpa [OkS] using a i b c
  have keep : SameL ps ps' → Twin rs ps' (N + 1) := fun hs => ⟨by omega, fun i hi2 => by
    obtain ⟨a, b, c⟩ := h.one i hi2
    rw [hw i (by omega), hs i (by omega)]
    exact ⟨a, b, by omega⟩⟩
  unfold RChg at hc
  rw [hok] at hc
  rcases ht with ⟨a, rfl, c⟩ | ⟨a, b, c, rfl, d⟩ | ⟨a, b, c, rfl, d⟩
  · rcases hc with ⟨_, rfl, rfl⟩ | ⟨x, y, _⟩ | ⟨x, y, _⟩
    · exact ⟨rfl, keep c⟩
    · exact absurd ⟨x, y⟩ a
    · exact absurd ⟨x, y⟩ a
  · rcases hc with ⟨x, _⟩ | ⟨_, _, _, rfl, rfl⟩ | ⟨_, _, x, _⟩
    · exact absurd ⟨a, b⟩ x
    · exact ⟨rfl, keep d⟩
    · exact absurd x c
  · rcases hc with ⟨x, _⟩ | ⟨_, _, x, _⟩ | ⟨_, _, _, rfl, hl2, hall⟩
    · exact absurd ⟨a, b⟩ x
    · exact absurd c x
    · refine ⟨rfl, by omega, fun i hi2 => ?_⟩
      rw [hl2] at hi2
      obtain ⟨e1, e2, e3⟩ := hall i hi2
      obtain ⟨o1, o2, o3⟩ := h.one i hi2
      have hw2 := hw i (by omega)
      have hi3 := hi i (by omega)
      rw [e1, hw2]
      refine ⟨o1, ?_, ?_⟩
      · by_cases hm : Among zs zs.length i
        · rw [e2 hm]
          refine relC_app o2 b (by rw [o1, ← hw2]; exact hi3) fun u u0 u1 => ?_
          rw [(d i (by omega)).1 hm u u0 u1]
          simp
        · rw [e3 hm, (d i (by omega)).2 hm]
          exact o2
      · by_cases hm : Among zs zs.length i
        · rw [e2 hm, List.length_append]; simp; omega
        · rw [e3 hm]; omega

/-- a new pool, and the document's -/
theorem twin_new {vs : List V4} {n : Nat} {ps : List Nd} (hlen : ps.length = n) (hr : ∀ i, i < n → (vv vs i).right = true) (hst : ∀ i, i < n → (nd ps i).whole = vv vs i ∧ (nd ps i).l = [⟨0, vv vs i⟩]) : Twin (newR vs n) ps 0 := by
  refine ⟨by rw [newR_length, hlen], fun i hi => ?_⟩
  rw [newR_length] at hi
  rw [newR_get vs hi]
  obtain ⟨a, b⟩ := hst i hi
  refine ⟨a.symm, ?_, Nat.le_refl _⟩
  rw [b]
  exact ⟨inv_new (hr i hi), fun j hj => absurd hj (Nat.not_lt_zero _), fun u u0 u1 => by simp [atR, val, valR, u0]⟩
theorem rrow_new {w : World} {sv : Value} {vs : List V4} {n : Nat} (h : PRow w sv (newR vs n)) : RRow w sv (newR vs n) :=
  ⟨h, fun i hi => by rw [newR_length] at hi; rw [newR_get vs hi]; exact World.ownsRow_nil _ _ _ _⟩
end Go.Proofs.Ytpjajiambbobhaa
