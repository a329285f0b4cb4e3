/- ref Base, ref May walked -/
import Derived.Test.YtpjajiambbobhaaPmq
import Derived.Test.YtpjajiambbobhaaRefd
import Derived.Deep.DeepCutAuto
import Derived.Test.YtpjajiambbobhaaPmd
/- corveeref12.Base, walked: the document's pool with the holds taken, told beside the program's. -/
namespace Go.Proofs.Ytpjajiambbobhaa
open Go.RowKit

theorem tookL_chg {rs rs' : List Rp} {ps ps' : List Nd} {N : Nat} {zs : List Int} {fr tt r r' : Int} {v : V4} (h : Twin rs ps N) (ht : TookL ps zs fr tt v r ps') (hc : RChg false rs ps zs fr tt v r' rs') : r = r' ∧ Twin rs' ps' (N + 1) :=
  took_chg h ht.2.len ht.2.whole ht.2.inv ht.1 hc
theorem gaveL_chg {rs rs' : List Rp} {ps ps' : List Nd} {N : Nat} {zs : List Int} {fr tt r r' : Int} {v : V4} (h : Twin rs ps N) (ht : GaveL ps zs fr tt v r ps') (hc : RChg true rs ps zs fr tt v r' rs') : r = r' ∧ Twin rs' ps' (N + 1) :=
  gave_chg h ht.2.len ht.2.whole ht.2.inv ht.1 hc
structure ChgC (wr : World) (back : Bool) (rs : List Rp) (ps : List Nd) (zs : List Int) (fr tt : Int) (v : V4) (xv ev : Value) (wx : World) : Prop where
  ex : ∃ X r so n c rs', xv = .pointer (some ⟨X, 0, none⟩) ∧ ev = .int .i64 r ∧ RChg back rs ps zs fr tt v r rs' ∧ RRow wx (.slice so n c) rs' ∧ wx.heap[X]? = some (.cells #[.slice so n c] 67 (0, 0)) ∧ wr.heap.size ≤ X ∧ Below wr.heap.size wr wx
def BasePost (hs : List Hold) (r : Int) (q : List Nd) (w : World) (e : Ending) (w' : World) : Prop :=
  ∃ so n c, e = .returned (.tuple #[.agg #[.slice so n c], .int .i64 r]) ∧ Below w.heap.size w w' ∧ (r = 0 → ∃ rs, RRow w' (.slice so n c) rs ∧ Twin rs q hs.length)

set_option maxRecDepth 100000 in
set_option maxHeartbeats 12800000 in
theorem rbase_any (vo uo ho : Option Addr) (n c un uc m mc : Nat) (vs : List V4) (now : Int) (hs : List Hold) (r : Int) (q : List Nd) (w : World) (hv : VecsAt w vo n vs) (hh : HoldsAt w ho m hs) (hL : LayRel vs un now hs r q) (hm8 : m ≤ 8) :
    Calls Try.prog 84 #[.slice vo n c, .slice uo un uc, .int .i64 now, .slice ho m mc] w (BasePost hs r q w) := by
  obtain ⟨W0, hW0⟩ : ∃ W0, W0 = w.alloc (.cells #[.slice none 0 0] 67 (0, 0)) := ⟨_, rfl⟩
  have hb0 : Below w.heap.size w W0 := by rw [hW0]; exact (Below.refl _ _).alloc (Nat.le_refl _) _
  have hi0 : W0.heap[w.heap.size]? = some (.cells #[.slice none 0 0] 67 (0, 0)) := by rw [hW0]; exact blk_new _ _
  have hz0 : W0.heap.size = w.heap.size + 1 := by rw [hW0]; simp
  have hrt := rright_any vo n c vs W0 (hv.below hb0 (Nat.le_refl _))
  have hnl := hv.len
  have hhl := hh.len
  rw [hW0] at hrt
  replace hv := Lib.hid hv; replace hh := Lib.hid hh; replace hb0 := Lib.hid hb0; replace hi0 := Lib.hid hi0; replace hz0 := Lib.hid hz0; replace hrt := Lib.hid hrt; replace hnl := Lib.hid hnl; replace hhl := Lib.hid hhl; replace hL := Lib.hid hL
  have hW0' := Lib.hid hW0
  clear hW0
  go_enter Try.func84, Try.ntmps84
  go_wp2_with fail
  refine hrt.out.mono ?_
  rw [← hW0'.out]
  rintro e w1 ⟨b, rfl, hbt, hb1⟩
  have hi1 := blk_below hb1 hi0.out (blk_lt hi0.out)
  have hlow1 : Below w.heap.size w w1 := hb0.out.trans (hb1.mono hb0.out.size)
  have i0 := blk_cell hi1 0
  have f0 := blk_free hi1 0
  simp at i0
  have li := blk_lt hi1
  have hno : ¬ LayOk vs un now → r = 1 := fun h => by
    rcases hL.out with ⟨_, c⟩ | ⟨c, _⟩
    · exact c
    · exact absurd c h
  have hbd : ¬ LayOk vs un now → BasePost hs r q w (.returned (.tuple #[.agg #[.slice none 0 0], .int .i64 1])) (w1.setCell ⟨w.heap.size, 0, none⟩ (.slice none 0 0)) := fun h =>
    ⟨none, 0, 0, by rw [hno h], hlow1.setCell (Nat.le_refl _) _, fun c => by rw [hno h] at c; cases c⟩
  replace hb1 := Lib.hid hb1; replace hi1 := Lib.hid hi1; replace hlow1 := Lib.hid hlow1; replace hno := Lib.hid hno; replace hbd := Lib.hid hbd
  cases b with
  | false =>
    have hbad := hbd.out (fun h => by
      have := hbt.2 ⟨by rw [← hnl.out]; exact h.few, fun i hi => h.right i (by rw [hnl.out]; exact hi)⟩
      cases this)
    clear hbt
    replace hbad := Lib.hid hbad
    go_wp2
    refine bodyPost_ret (v := .tuple #[.agg #[.slice none 0 0], .int .i64 1]) (by simp [results, Try.results84, go_sem, i0]) rfl ?_
    exact hbad.out
  | true =>
  obtain ⟨hn16, hrts⟩ := hbt.1 rfl
  clear hbt
  by_cases q1 : un = n
  rotate_left
  · have d1 : ((un : Int) != (n : Int)) = true := by simp; omega
    have hbad := hbd.out (fun h => q1 (h.up.trans hnl.out))
    replace hbad := Lib.hid hbad; replace q1 := Lib.hid q1; replace hrts := Lib.hid hrts
    go_wp2
    refine bodyPost_ret (v := .tuple #[.agg #[.slice none 0 0], .int .i64 1]) (by simp [results, Try.results84, go_sem, i0]) rfl ?_
    exact hbad.out
  have d1 : ((un : Int) != (n : Int)) = false := by simp; omega
  by_cases q2 : now < 0
  · have d2 : decide (now < 0) = true := by simpa using q2
    have hbad := hbd.out (fun h => by have := h.lo; omega)
    replace hbad := Lib.hid hbad; replace q1 := Lib.hid q1; replace q2 := Lib.hid q2; replace hrts := Lib.hid hrts
    go_wp2
    refine bodyPost_ret (v := .tuple #[.agg #[.slice none 0 0], .int .i64 1]) (by simp [results, Try.results84, go_sem, i0]) rfl ?_
    exact hbad.out
  have d2 : decide (now < 0) = false := by simp; omega
  by_cases q3 : 1099511627776 ≤ now
  · have d3 : decide (1099511627776 ≤ now) = true := by simpa using q3
    have hbad := hbd.out (fun h => by have := h.hi; omega)
    replace hbad := Lib.hid hbad; replace q1 := Lib.hid q1; replace q2 := Lib.hid q2; replace q3 := Lib.hid q3; replace hrts := Lib.hid hrts
    go_wp2
    refine bodyPost_ret (v := .tuple #[.agg #[.slice none 0 0], .int .i64 1]) (by simp [results, Try.results84, go_sem, i0]) rfl ?_
    exact hbad.out
  have d3 : decide (1099511627776 ≤ now) = false := by simp; omega
  have hok : LayOk vs un now := ⟨by rw [hnl.out]; exact hn16, fun i hi => hrts i (by rw [← hnl.out]; exact hi), q1.trans hnl.out.symm, by omega, by omega⟩
  obtain ⟨ps0, hf, K, mK, hKm, hCK, hKr⟩ : ∃ ps0, Fresh vs ps0 ∧ ∃ K mK, K ≤ m ∧ Chain (HoldTook now) (hs.take K) ps0 mK ∧ ((r = 0 ∧ K = m ∧ mK = q) ∨ (r ≠ 0 ∧ K < m ∧ ∃ h q', hs[K]? = some h ∧ TookL mK h.gzs now (holdEnd now h) h.v r q')) := by
    rcases hL.out with ⟨h, _⟩ | ⟨_, ps, hf, ⟨e, hc⟩ | ⟨e, k, x, mm, q', hx, hc, hT⟩⟩
    · exact absurd hok h
    · exact ⟨ps, hf, m, q, Nat.le_refl _, by rw [List.take_of_length_le (by rw [hhl.out]; exact Nat.le_refl _)]; exact hc, .inl ⟨e, rfl, rfl⟩⟩
    · have hk := (List.getElem?_eq_some_iff.1 hx).1
      have hk' : k < m := by rw [← hhl.out]; exact hk
      exact ⟨ps, hf, k, mm, Nat.le_of_lt hk', hc, .inr ⟨e, hk', x, q', hx, hT⟩⟩
  have htw0 : Twin (newR vs n) ps0 0 := twin_new (hf.len.trans hnl.out) hrts (fun i hi => hf.node i (by rw [hnl.out]; exact hi))
  have hps16 : ps0.length ≤ 16 := by rw [hf.len, hnl.out]; exact hn16
  have hnw := rnew_any vo n c vs w1 (hv.out.below hlow1.out (Nat.le_refl _)) hn16
  have ew : IntKind.i64.wrap (now + 1) = now + 1 := IntWalk.i64_in _ (by omega)
  clear i0 f0 li
  replace q1 := Lib.hid q1; replace q2 := Lib.hid q2; replace q3 := Lib.hid q3; replace hrts := Lib.hid hrts; replace hok := Lib.hid hok; replace hf := Lib.hid hf; replace hCK := Lib.hid hCK; replace hKr := Lib.hid hKr; replace htw0 := Lib.hid htw0; replace hps16 := Lib.hid hps16; replace hnw := Lib.hid hnw
  go_wp2_with fail
  refine hnw.out.mono ?_
  rintro e w2 ⟨sv0, rfl, hrow0, hb2⟩
  obtain ⟨so0, sc0, rfl, _⟩ := hrow0.form
  obtain ⟨W3, hW3⟩ : ∃ W3, W3 = w2.alloc (.cells #[.slice so0 (newR vs n).length sc0] 67 (0, 0)) := ⟨_, rfl⟩
  have hb3 : Below w2.heap.size w2 W3 := by rw [hW3]; exact (Below.refl _ _).alloc (Nat.le_refl _) _
  have hp3 : W3.heap[w2.heap.size]? = some (.cells #[.slice so0 (newR vs n).length sc0] 67 (0, 0)) := by rw [hW3]; exact blk_new _ _
  have hr3 : RRow W3 (.slice so0 (newR vs n).length sc0) (newR vs n) := (rrow_new hrow0).below hb3 (Nat.le_refl _)
  have hlow2 := hlow1.out.trans (hb2.mono hlow1.out.size)
  have hi2 := blk_below hb2 hi1.out (blk_lt hi1.out)
  have hi3 := blk_below hb3 hi2 (blk_lt hi2)
  have hlow3 := hlow2.trans (hb3.mono hlow2.size)
  have hpi : w.heap.size < w2.heap.size := blk_lt hi2
  have hC0 : Chain (HoldTook now) ((hs.take K).drop 0) ps0 mK := hCK.out
  replace hrow0 := Lib.hid hrow0; replace hb2 := Lib.hid hb2; replace hb3 := Lib.hid hb3; replace hp3 := Lib.hid hp3; replace hr3 := Lib.hid hr3; replace hlow2 := Lib.hid hlow2; replace hi2 := Lib.hid hi2; replace hi3 := Lib.hid hi3; replace hlow3 := Lib.hid hlow3; replace hC0 := Lib.hid hC0
  have hW3' := Lib.hid hW3
  clear hW3
  go_wp2
  rw [← hW3'.out]
  go_loopw [12, 13, 14] (fun i _ _ wr => ∃ (k : Nat) (mm : List Nd) (rs : List Rp) (so : Option Addr) (sn sc : Nat), i = .int .i64 k ∧ k ≤ K ∧ Hid (Below w.heap.size w wr) ∧ Hid (wr.heap[w.heap.size]? = some (.cells #[.slice none 0 0] 67 (0, 0))) ∧ Hid (wr.heap[w2.heap.size]? = some (.cells #[.slice so sn sc] 67 (0, 0))) ∧ Hid (RRow wr (.slice so sn sc) rs) ∧ Hid (Twin rs mm k) ∧ Hid (mm.length ≤ 16) ∧ Hid (Chain (HoldTook now) ((hs.take K).drop k) mm mK)) (fun i _ _ _ => m - (intOf i).toNat)
  case atStart => exact ⟨0, ps0, newR vs n, so0, _, sc0, rfl, Nat.zero_le _, hlow3.out, hi3.out, hp3.out, hr3.out, htw0.out, hps16.out, hC0.out⟩
  case round =>
    obtain ⟨k, mm, rs, so, sn, sc, rfl, hk, hlow, hi, hp, hr, htw, h16, hC⟩ := hrel
    by_cases hc : k < m
    · have hc1 : (k : Int) < m := by omega
      have hk0 : (0 : Int) ≤ (k : Int) := by omega
      obtain ⟨x, hx⟩ := hh.out.get hc
      obtain ⟨b, off, rfl, hb, a0, hxo⟩ := hh.out.cell k x hx
      have a1 := (below_cell hlow.out hb).trans (a0 0 (by omega)); have a2 := (below_cell hlow.out hb).trans (a0 1 (by omega)); have a3 := (below_cell hlow.out hb).trans (a0 2 (by omega)); have a4 := (below_cell hlow.out hb).trans (a0 3 (by omega)); have a5 := (below_cell hlow.out hb).trans (a0 4 (by omega)); have a6 := (below_cell hlow.out hb).trans (a0 5 (by omega))
      simp at a1 a2 a3 a4 a5 a6
      clear a0
      have hbr := Nat.lt_of_lt_of_le hb hlow.out.size
      have p0 := blk_cell hp.out 0
      simp at p0
      have lp := blk_lt hp.out
      obtain ⟨T, hT⟩ : ∃ T, T = holdEnd now x := ⟨_, rfl⟩
      have hmx : (if x.till < now + 1 then now + 1 else x.till) = T := by rw [hT]; unfold holdEnd; omega
      have hS : Hid (∀ w' : World, Below wr.heap.size wr w' → w'.cell? ⟨w2.heap.size, 0, none⟩ = some (.slice so sn sc) ∧ w'.cell? ⟨b, off + k * 6, none⟩ = some (.slice x.go x.gn x.gc) ∧ w'.cell? ⟨b, off + k * 6 + 1, none⟩ = some (.int .i64 x.v.a) ∧ w'.cell? ⟨b, off + k * 6 + 2, none⟩ = some (.int .i64 x.v.b) ∧ w'.cell? ⟨b, off + k * 6 + 3, none⟩ = some (.int .i64 x.v.c) ∧ w'.cell? ⟨b, off + k * 6 + 4, none⟩ = some (.int .i64 x.v.d) ∧ w'.cell? ⟨b, off + k * 6 + 5, none⟩ = some (.int .i64 x.till)) := fun w' h => ⟨(below_cell h lp).trans p0, (below_cell h hbr).trans a1, (below_cell h hbr).trans a2, (below_cell h hbr).trans a3, (below_cell h hbr).trans a4, (below_cell h hbr).trans a5, (below_cell h hbr).trans a6⟩
      have hch : ∀ W', Below wr.heap.size wr W' → Calls Try.prog 77 #[.agg #[.slice so sn sc], .slice x.go x.gn x.gc, .int .i64 now, .int .i64 T, x.v.val, .bool false] W' (ChgPost false rs mm x.gzs now T x.v W') :=
        fun W' h => rchg_any false (.slice so sn sc) rs mm k x.go x.gn x.gc x.gzs now T x.v W' (htw.out.pool (hr.out.below h (Nat.le_refl _))) (hxo.gang.below (hlow.out.trans (h.mono hlow.out.size)) (Nat.le_refl _)) (by omega) h16.out
      have hcur : Below wr.heap.size wr wr.drew := (Below.refl _ _).drew
      have hcz : Below wr.heap.size wr (wr.alloc (.cells #[.slice none 0 0] 67 (0, 0))).drew := ((Below.refl _ _).alloc (Nat.le_refl _) _).drew
      replace hx := Lib.hid hx; replace hxo := Lib.hid hxo; replace hT := Lib.hid hT; replace hch := Lib.hid hch; replace hcur := Lib.hid hcur; replace hcz := Lib.hid hcz
      go_upto_region 8 with fail
      go_cut [13, 14] (fun xv ev wx => ChgC wr false rs mm x.gzs now T x.v xv ev wx)
      case first =>
        go_region_held3 (fun w' => w'.cell? ⟨w2.heap.size, 0, none⟩ = some (.slice so sn sc) ∧ w'.cell? ⟨b, off + k * 6, none⟩ = some (.slice x.go x.gn x.gc) ∧ w'.cell? ⟨b, off + k * 6 + 1, none⟩ = some (.int .i64 x.v.a) ∧ w'.cell? ⟨b, off + k * 6 + 2, none⟩ = some (.int .i64 x.v.b) ∧ w'.cell? ⟨b, off + k * 6 + 3, none⟩ = some (.int .i64 x.v.c) ∧ w'.cell? ⟨b, off + k * 6 + 4, none⟩ = some (.int .i64 x.v.d) ∧ w'.cell? ⟨b, off + k * 6 + 5, none⟩ = some (.int .i64 x.till))
          (first
            | with_reducible exact hS.out _ hcur.out
            | with_reducible exact hS.out _ hcz.out
            | with_reducible exact hS.out _ (hcur.out.alloc hcur.out.size _)
            | with_reducible exact hS.out _ (hcur.out.setCell (Nat.le_refl _) _)
            | with_reducible exact hS.out _ ((hcur.out.alloc hcur.out.size _).setCell hcur.out.size _))
          (first
              | (go_at_call 77
                 refine (hch.out _ hcur.out).mono ?_
                 rintro e w5 ⟨r5, s5, rs5, rfl, hC5, hr5, hb5⟩
                 obtain ⟨so5, sc5, rfl, _⟩ := hr5.1.form
                 replace hcur := Lib.hid (hcur.out.trans (hb5.mono hcur.out.size))
                 replace hC5 := Lib.hid hC5; replace hr5 := Lib.hid hr5; replace hb5 := Lib.hid hb5)
              | (go_at_call 77
                 refine (hch.out _ hcz.out).mono ?_
                 rintro e w5 ⟨r5, s5, rs5, rfl, hC5, hr5, hb5⟩
                 obtain ⟨so5, sc5, rfl, _⟩ := hr5.1.form
                 have hz5 : w5.heap[wr.heap.size]? = some (.cells #[.slice none 0 0] 67 (0, 0)) := (hb5.block wr.heap.size (by simp)).trans (blk_new wr _)
                 have z0 := blk_cell hz5 0
                 have fz := blk_free hz5 0
                 simp at z0
                 have lz := blk_lt hz5
                 replace hcur := Lib.hid (hcz.out.trans (hb5.mono hcz.out.size))
                 replace hz5 := Lib.hid hz5; replace hC5 := Lib.hid hC5; replace hr5 := Lib.hid hr5; replace hb5 := Lib.hid hb5)
          )
        all_goals
          go_wp2_with fail
          go_meet
          first
            | exact ⟨⟨w5.heap.size, r5, so5, _, sc5, rs5, rfl, rfl, hC5.out, hr5.out.below ((Below.refl _ _).alloc (Nat.le_refl _) _) (Nat.le_refl _), blk_new _ _, hcur.out.size, hcur.out.alloc hcur.out.size _⟩⟩
            | exact ⟨⟨wr.heap.size, r5, so5, _, sc5, rs5, rfl, rfl, hC5.out, hr5.out.setQ hz5.out _, (by show _ = _; rw [blk_set hz5.out]; rfl), Nat.le_refl _, hcur.out.setCell (Nat.le_refl _) _⟩⟩
      case rest =>
        obtain ⟨X, r5, so5, n5, c5, rs5, rfl, rfl, hC5, hr5, hX5, hXl, hb5⟩ := hcut.ex
        have hi5 := blk_below hb5 hi.out (blk_lt hi.out)
        have hp5 := blk_below hb5 hp.out lp
        have hlow5 := hlow.out.trans (hb5.mono hlow.out.size)
        clear hcut a1 a2 a3 a4 a5 a6 p0
        by_cases qK : k < K
        · obtain ⟨m2, hm2, hC2⟩ : ∃ m2, HoldTook now x mm m2 ∧ Chain (HoldTook now) ((hs.take K).drop (k + 1)) m2 mK := by
            have h := hC.out
            have e : (hs.take K).drop k = x :: (hs.take K).drop (k + 1) := by
              rw [List.drop_eq_getElem_cons (by rw [List.length_take, hhl.out]; omega)]
              congr 1
              have := List.getElem?_eq_some_iff.1 hx.out
              rw [List.getElem_take]; exact this.2
            rw [e] at h
            exact h
          have hm2' : TookL mm x.gzs now T x.v 0 m2 := by rw [hT.out]; exact hm2
          obtain ⟨e0, htw2⟩ := tookL_chg htw.out hm2' hC5
          subst e0
          have h162 : m2.length ≤ 16 := by rw [hm2'.2.len]; exact h16.out
          have hxc := blk_cell hX5 0
          have fp := blk_free hp5 0
          have pc := blk_cell hp5 0
          simp at hxc pc
          have lX := blk_lt hX5
          have lp5 := blk_lt hp5
          have hrn : RRow (wc.setCell ⟨w2.heap.size, 0, none⟩ (.slice so5 n5 c5)) (.slice so5 n5 c5) rs5 := hr5.setQ hp5 _
          have hpn : (wc.setCell ⟨w2.heap.size, 0, none⟩ (.slice so5 n5 c5)).heap[w2.heap.size]? = some (.cells #[.slice so5 n5 c5] 67 (0, 0)) := by rw [blk_set hp5]; rfl
          have hin : (wc.setCell ⟨w2.heap.size, 0, none⟩ (.slice so5 n5 c5)).heap[w.heap.size]? = some (.cells #[.slice none 0 0] 67 (0, 0)) := blk_set_other (Nat.ne_of_lt hpi) _ hi5
          have hln : Below w.heap.size w (wc.setCell ⟨w2.heap.size, 0, none⟩ (.slice so5 n5 c5)) := hlow5.setCell (Nat.le_of_lt hpi) _
          replace hC5 := Lib.hid hC5; replace hr5 := Lib.hid hr5; replace hX5 := Lib.hid hX5; replace hb5 := Lib.hid hb5; replace hi5 := Lib.hid hi5; replace hp5 := Lib.hid hp5; replace hlow5 := Lib.hid hlow5; replace hm2 := Lib.hid hm2; replace hm2' := Lib.hid hm2'; replace hC2 := Lib.hid hC2; replace htw2 := Lib.hid htw2; replace h162 := Lib.hid h162; replace hrn := Lib.hid hrn; replace hpn := Lib.hid hpn; replace hin := Lib.hid hin; replace hln := Lib.hid hln
          go_wp2
          go_roundw
          case rel => exact ⟨k + 1, m2, rs5, so5, n5, c5, by go_num, by omega, hln.out, hin.out, hpn.out, hrn.out, htw2.out, h162.out, hC2.out⟩
          case measure => simp [intOf]; omega
        · have hkK : k = K := by omega
          have hmm : mm = mK := by
            have h := hC.out
            rw [List.drop_eq_nil_of_le (by rw [List.length_take, hhl.out]; omega)] at h
            exact h.symm
          rcases hKr.out with ⟨_, h2, _⟩ | ⟨hr0, _, x2, q', hx2, hT2⟩
          · omega
          have ex : x = x2 := by
            have h := hx.out
            rw [hkK, hx2] at h
            cases h; rfl
          subst ex
          have hT2' : TookL mm x.gzs now T x.v r q' := by rw [hT.out, hmm]; exact hT2
          obtain ⟨e0, _⟩ := tookL_chg htw.out hT2' hC5
          subst e0
          have dr : (r != 0) = true := by simpa using hr0
          have pc := blk_cell hp5 0
          have ic := blk_cell hi5 0
          have fi := blk_free hi5 0
          simp at pc ic
          have lp5 := blk_lt hp5
          have li5 := blk_lt hi5
          replace hC5 := Lib.hid hC5; replace hr5 := Lib.hid hr5; replace hX5 := Lib.hid hX5; replace hb5 := Lib.hid hb5; replace hi5 := Lib.hid hi5; replace hp5 := Lib.hid hp5; replace hlow5 := Lib.hid hlow5; replace hkK := Lib.hid hkK; replace hmm := Lib.hid hmm; replace hr0 := Lib.hid hr0; replace hx2 := Lib.hid hx2; replace hT2 := Lib.hid hT2; replace hT2' := Lib.hid hT2'
          go_wp2
          refine bodyPost_ret (v := .tuple #[.agg #[.slice so sn sc], .int .i64 r]) (by simp [results, Try.results84, go_sem, ic]) rfl ?_
          exact ⟨so, sn, sc, rfl, hlow5.out.setCell (Nat.le_refl _) _, fun h => absurd h hr0.out⟩
    · have hc1 : ¬ (k : Int) < m := by omega
      have hkm : k = m := by omega
      have hKm' : K = m := by omega
      have hmm : mm = mK := by
        have h := hC.out
        rw [List.drop_eq_nil_of_le (by rw [List.length_take, hhl.out]; omega)] at h
        exact h.symm
      rcases hKr.out with ⟨h1, _, h3⟩ | ⟨_, h2, _⟩
      rotate_left
      · omega
      have pc := blk_cell hp.out 0
      have ic := blk_cell hi.out 0
      have fi := blk_free hi.out 0
      simp at pc ic
      have lp := blk_lt hp.out
      have li := blk_lt hi.out
      have hfin : ∃ rs, RRow (wr.setCell ⟨w.heap.size, 0, none⟩ (.slice so sn sc)) (.slice so sn sc) rs ∧ Twin rs q hs.length := ⟨rs, hr.out.setQ hi.out _, by rw [← h3, ← hmm, hhl.out, ← hkm]; exact htw.out⟩
      subst h1
      replace hkm := Lib.hid hkm; replace hKm' := Lib.hid hKm'; replace hmm := Lib.hid hmm; replace h3 := Lib.hid h3; replace hfin := Lib.hid hfin
      go_wp2
      refine bodyPost_ret (v := .tuple #[.agg #[.slice so sn sc], .int .i64 0]) (by simp [results, Try.results84, go_sem, ic]) rfl ?_
      exact ⟨so, sn, sc, rfl, hlow.out.setCell (Nat.le_refl _) _, fun _ => hfin.out⟩
end Go.Proofs.Ytpjajiambbobhaa

/- corveeref12.May, walked beside plan.May: it answers the same. -/
namespace Go.Proofs.Ytpjajiambbobhaa
open Go.RowKit

theorem chain_next {α β : Type} {R : α → β → β → Prop} {xs : List α} {K k : Nat} {x : α} {p q : β} (h : Chain R ((xs.take K).drop k) p q) (hk : k < K) (hx : xs[k]? = some x) : ∃ m, R x p m ∧ Chain R ((xs.take K).drop (k + 1)) m q := by
  have hl := (List.getElem?_eq_some_iff.1 hx).1
  have e : (xs.take K).drop k = x :: (xs.take K).drop (k + 1) := by
    rw [List.drop_eq_getElem_cons (by rw [List.length_take]; omega)]
    congr 1
    rw [List.getElem_take]; exact (List.getElem?_eq_some_iff.1 hx).2
  rw [e] at h
  exact h
theorem chain_end {α β : Type} {R : α → β → β → Prop} {xs : List α} {K : Nat} {p q : β} (h : Chain R ((xs.take K).drop K) p q) : q = p := by
  rw [List.drop_eq_nil_of_le (by rw [List.length_take]; omega)] at h
  exact h

structure OfC (WA : World) (bs : List Bool) (a : Ask) (zs : List Int) (gv : Value) (wx : World) : Prop where
  ex : ∃ g : Bool, gv = .bool g ∧ (g = true ↔ OfAsk bs a zs) ∧ Below WA.heap.size WA wx

set_option maxRecDepth 100000 in
set_option maxHeartbeats 12800000 in
theorem rmay_any (vo uo ho ao so : Option Addr) (n c un uc m mc l lc sn sc : Nat) (vs : List V4) (bs : List Bool) (now : Int) (hs : List Hold) (asks : List Ask) (slots : List Slot) (b : Bool) (w : World) (hv : VecsAt w vo n vs) (hu : BoolsAt w uo un bs) (hh : HoldsAt w ho m hs) (ha : AsksAt w ao l asks) (hsl : SlotsAt w so sn slots)
    (hR : MayRel vs now bs hs asks slots b) (hm8 : m ≤ 8) (hl : l ≤ 1000) (hun : un ≤ 1000000) :
    Calls Try.prog 57 #[.slice vo n c, .slice uo un uc, .int .i64 now, .slice ho m mc, .slice ao l lc, .slice so sn sc] w fun e w' => e = .returned (.bool b) ∧ Below w.heap.size w w' := by
  have hbl := hu.len
  have hal := ha.len
  have hsll := hsl.len
  have hhl := hh.len
  have hbase := fun r q (hL : LayRel vs bs.length now hs r q) => rbase_any vo uo ho n c un uc m mc vs now hs r q w hv hh (by rw [← hbl]; exact hL) hm8
  replace hv := Lib.hid hv; replace hu := Lib.hid hu; replace hh := Lib.hid hh; replace ha := Lib.hid ha; replace hsl := Lib.hid hsl; replace hbl := Lib.hid hbl; replace hal := Lib.hid hal; replace hsll := Lib.hid hsll; replace hhl := Lib.hid hhl
  rcases hR with ⟨rfl, r, hr, hL⟩ | ⟨ps, hL, hR⟩
  · have hb := hbase r [] hL
    have d : (r != 0) = true := by simpa using hr
    replace hb := Lib.hid hb; replace hbase := Lib.hid hbase; replace hr := Lib.hid hr; replace hL := Lib.hid hL
    go_enter Try.func57, Try.ntmps57
    go_wp2_with fail
    refine hb.out.mono ?_
    rintro e w1 ⟨so1, n1, c1, rfl, hb1, _⟩
    have hlow : Below w.heap.size w (w1.alloc (.cells #[.slice so1 n1 c1] 67 (0, 0))) := hb1.alloc hb1.size _
    replace hb1 := Lib.hid hb1; replace hlow := Lib.hid hlow
    go_wp2
    go_ret
    exact ⟨rfl, hlow.out⟩
  have hb := hbase 0 ps hL
  obtain ⟨hok, hHeld, _⟩ := lay_held hL
  have hps16 : ps.length ≤ 16 := by rw [hHeld.len]; exact hok.few
  have hnow := hok.lo
  have hsmx := hsl.out.max
  clear hHeld
  rcases hR with ⟨rfl, hne⟩ | ⟨heq, hR⟩
  · have d : ((sn : Int) != (l : Int)) = true := by have := hsll.out; have := hal.out; simp; omega
    replace hb := Lib.hid hb; replace hbase := Lib.hid hbase; replace hne := Lib.hid hne; replace hL := Lib.hid hL; replace hok := Lib.hid hok; replace hps16 := Lib.hid hps16; replace hnow := Lib.hid hnow
    go_enter Try.func57, Try.ntmps57
    go_wp2_with fail
    refine hb.out.mono ?_
    rintro e w1 ⟨so1, n1, c1, rfl, hb1, _⟩
    have hlow : Below w.heap.size w (w1.alloc (.cells #[.slice so1 n1 c1] 67 (0, 0))) := hb1.alloc hb1.size _
    replace hb1 := Lib.hid hb1; replace hlow := Lib.hid hlow
    go_wp2
    go_ret
    exact ⟨rfl, hlow.out⟩
  have hsnl : sn = l := by have := hsll.out; have := hal.out; omega
  subst hsnl
  have d : ((sn : Int) != (sn : Int)) = false := by simp
  obtain ⟨K, mK, hKl, hCK, hKr⟩ : ∃ K mK, K ≤ sn ∧ Chain (MayOne now bs) ((asks.zip slots).take K) ps mK ∧ ((b = true ∧ K = sn) ∨ (b = false ∧ K < sn ∧ ∃ x, (asks.zip slots)[K]? = some x ∧ MayBad now bs x mK)) := by
    have hzl : (asks.zip slots).length = sn := by rw [List.length_zip, hal.out, hsll.out]; omega
    rcases hR with ⟨e, q, hc⟩ | ⟨e, k, x, mm, hx, hc, hB⟩
    · exact ⟨sn, q, Nat.le_refl _, by rw [List.take_of_length_le (by omega)]; exact hc, .inl ⟨e, rfl⟩⟩
    · have hk := (List.getElem?_eq_some_iff.1 hx).1
      exact ⟨k, mm, by omega, hc, .inr ⟨e, by omega, x, hx, hB⟩⟩
  have hC0 : Chain (MayOne now bs) (((asks.zip slots).take K).drop 0) ps mK := hCK
  replace hb := Lib.hid hb; replace hbase := Lib.hid hbase; replace hL := Lib.hid hL; replace hok := Lib.hid hok; replace hps16 := Lib.hid hps16; replace hnow := Lib.hid hnow; replace heq := Lib.hid heq; replace hCK := Lib.hid hCK; replace hKr := Lib.hid hKr; replace hC0 := Lib.hid hC0
  go_enter Try.func57, Try.ntmps57
  go_wp2_with fail
  refine hb.out.mono ?_
  rintro e w1 ⟨so1, n1, c1, rfl, hb1, hrs⟩
  obtain ⟨rs1, hrow1, htw1⟩ := hrs rfl
  obtain ⟨W1, hW1⟩ : ∃ W1, W1 = w1.alloc (.cells #[.slice so1 n1 c1] 67 (0, 0)) := ⟨_, rfl⟩
  have hbW : Below w1.heap.size w1 W1 := by rw [hW1]; exact (Below.refl _ _).alloc (Nat.le_refl _) _
  have hp1 : W1.heap[w1.heap.size]? = some (.cells #[.slice so1 n1 c1] 67 (0, 0)) := by rw [hW1]; exact blk_new _ _
  have hrow1' := hrow1.below hbW (Nat.le_refl _)
  have hlow1 := hb1.trans (hbW.mono hb1.size)
  have hw1 := hb1.size
  rw [hhl.out] at htw1
  replace hrow1 := Lib.hid hrow1; replace htw1 := Lib.hid htw1; replace hbW := Lib.hid hbW; replace hp1 := Lib.hid hp1; replace hrow1' := Lib.hid hrow1'; replace hlow1 := Lib.hid hlow1; replace hb1 := Lib.hid hb1; replace hrs := Lib.hid hrs
  have hW1' := Lib.hid hW1
  clear hW1
  go_wp2
  rw [← hW1'.out]
  go_loopw [15, 16, 17, 18, 19, 20] (fun i _ _ _ _ _ wr => ∃ (k : Nat) (mm : List Nd) (rs : List Rp) (ro : Option Addr) (rn rc : Nat), i = .int .i64 k ∧ k ≤ K ∧ Hid (Below w.heap.size w wr) ∧ Hid (wr.heap[w1.heap.size]? = some (.cells #[.slice ro rn rc] 67 (0, 0))) ∧ Hid (RRow wr (.slice ro rn rc) rs) ∧ Hid (Twin rs mm (m + k)) ∧ Hid (mm.length ≤ 16) ∧ Hid (Chain (MayOne now bs) (((asks.zip slots).take K).drop k) mm mK)) (fun i _ _ _ _ _ _ => sn - (intOf i).toNat)
  case atStart => exact ⟨0, ps, rs1, so1, n1, c1, rfl, Nat.zero_le _, hlow1.out, hp1.out, hrow1'.out, htw1.out, hps16.out, hC0.out⟩
  case round =>
    obtain ⟨k, mm, rs, ro, rn, rc, rfl, hk, hlow, hp, hr, htw, h16, hC⟩ := hrel
    by_cases hc : k < sn
    · have hc1 : (k : Int) < sn := by omega
      have hk0 : (0 : Int) ≤ (k : Int) := by omega
      obtain ⟨s, hsx⟩ := hsl.out.get hc
      obtain ⟨b1, off, rfl, hb, s0, hso⟩ := hsl.out.cell k s hsx
      have t0 := (below_cell hlow.out hb).trans (s0 0 (by omega)); have t1 := (below_cell hlow.out hb).trans (s0 1 (by omega)); have t2 := (below_cell hlow.out hb).trans (s0 2 (by omega))
      simp at t0 t1 t2
      clear s0
      obtain ⟨a, hax⟩ := ha.out.get hc
      obtain ⟨b', off', rfl, hb', a0', hao⟩ := ha.out.cell k a hax
      have hz : (asks.zip slots)[k]? = some (a, s) := by rw [List.getElem?_zip_eq_some]; exact ⟨hax, hsx⟩
      have hcase : (k < K ∧ ∃ m2, MayOne now bs (a, s) mm m2 ∧ Chain (MayOne now bs) (((asks.zip slots).take K).drop (k + 1)) m2 mK) ∨ (b = false ∧ MayBad now bs (a, s) mm) := by
        by_cases hkK : k < K
        · exact .inl ⟨hkK, chain_next hC.out hkK hz⟩
        · have e : k = K := by omega
          subst e
          rcases hKr.out with ⟨_, h2⟩ | ⟨h1, _, x, hx, hB⟩
          · omega
          · rw [hz] at hx
            cases hx
            have := chain_end hC.out
            rw [this] at hB
            exact .inr ⟨h1, hB⟩
      obtain ⟨WA, hWA⟩ : ∃ WA, WA = wr.alloc (.cells s.cells 88 (0, 0)) := ⟨_, rfl⟩
      have hbA : Below wr.heap.size wr WA := by rw [hWA]; exact (Below.refl _ _).alloc (Nat.le_refl _) _
      have hxA : WA.heap[wr.heap.size]? = some s.obj := by rw [hWA]; exact blk_new _ _
      have hlowA := hlow.out.trans (hbA.mono hlow.out.size)
      obtain ⟨z0, z1, z2⟩ := slot_cells hxA
      have lz := blk_lt hxA
      have a0 := (below_cell hlowA hb').trans (a0' 0 (by omega)); have a1 := (below_cell hlowA hb').trans (a0' 1 (by omega)); have a2 := (below_cell hlowA hb').trans (a0' 2 (by omega)); have a3 := (below_cell hlowA hb').trans (a0' 3 (by omega)); have a4 := (below_cell hlowA hb').trans (a0' 4 (by omega)); have a5 := (below_cell hlowA hb').trans (a0' 5 (by omega)); have a6 := (below_cell hlowA hb').trans (a0' 6 (by omega)); have a7 := (below_cell hlowA hb').trans (a0' 7 (by omega)); have a8 := (below_cell hlowA hb').trans (a0' 8 (by omega)); have a9 := (below_cell hlowA hb').trans (a0' 9 (by omega))
      simp at a0 a1 a2 a3 a4 a5 a6 a7 a8 a9
      clear a0'
      have hbA' := Nat.lt_of_lt_of_le hb' hlowA.size
      have pA := (below_cell hbA (blk_lt hp.out)).trans (blk_cell hp.out 0)
      simp at pA
      have lpA := Nat.lt_of_lt_of_le (blk_lt hp.out) hbA.size
      have hS : Hid (∀ w' : World, Below WA.heap.size WA w' → w'.cell? ⟨w1.heap.size, 0, none⟩ = some (.slice ro rn rc) ∧ w'.cell? ⟨wr.heap.size, 0, none⟩ = some (.int .i64 s.id) ∧ w'.cell? ⟨wr.heap.size, 1, none⟩ = some (.int .i64 s.start) ∧ w'.cell? ⟨wr.heap.size, 2, none⟩ = some (.slice s.go s.gn s.gc) ∧ w'.cell? ⟨b', off' + k * 10, none⟩ = some (.int .i64 a.id) ∧ w'.cell? ⟨b', off' + k * 10 + 1, none⟩ = some (.slice a.po a.pn a.pc) ∧ w'.cell? ⟨b', off' + k * 10 + 2, none⟩ = some (.int .i64 a.nodes) ∧ w'.cell? ⟨b', off' + k * 10 + 3, none⟩ = some (.int .i64 a.v.a) ∧ w'.cell? ⟨b', off' + k * 10 + 4, none⟩ = some (.int .i64 a.v.b) ∧ w'.cell? ⟨b', off' + k * 10 + 5, none⟩ = some (.int .i64 a.v.c) ∧ w'.cell? ⟨b', off' + k * 10 + 6, none⟩ = some (.int .i64 a.v.d) ∧ w'.cell? ⟨b', off' + k * 10 + 7, none⟩ = some (.int .i64 a.ticks) ∧ w'.cell? ⟨b', off' + k * 10 + 8, none⟩ = some (.int .i64 a.start) ∧ w'.cell? ⟨b', off' + k * 10 + 9, none⟩ = some (.slice a.go a.gn a.gc)) := fun w' h => ⟨(below_cell h lpA).trans pA, (below_cell h lz).trans z0, (below_cell h lz).trans z1, (below_cell h lz).trans z2, (below_cell h hbA').trans a0, (below_cell h hbA').trans a1, (below_cell h hbA').trans a2, (below_cell h hbA').trans a3, (below_cell h hbA').trans a4, (below_cell h hbA').trans a5, (below_cell h hbA').trans a6, (below_cell h hbA').trans a7, (below_cell h hbA').trans a8, (below_cell h hbA').trans a9⟩
      have hcur : Below WA.heap.size WA WA.drew := (Below.refl _ _).drew
      replace hsx := Lib.hid hsx; replace hso := Lib.hid hso; replace hax := Lib.hid hax; replace hao := Lib.hid hao; replace hz := Lib.hid hz; replace hcase := Lib.hid hcase; replace hbA := Lib.hid hbA; replace hxA := Lib.hid hxA; replace hlowA := Lib.hid hlowA; replace hcur := Lib.hid hcur
      have hWA' := Lib.hid hWA
      clear hWA a0 a1 a2 a3 a4 a5 a6 a7 a8 a9 pA
      go_wp2_with fail
      rw [← hWA'.out]
      clear t0 t1 t2
      go_region_held3 (fun w' => w'.cell? ⟨w1.heap.size, 0, none⟩ = some (.slice ro rn rc) ∧ w'.cell? ⟨wr.heap.size, 0, none⟩ = some (.int .i64 s.id) ∧ w'.cell? ⟨wr.heap.size, 1, none⟩ = some (.int .i64 s.start) ∧ w'.cell? ⟨wr.heap.size, 2, none⟩ = some (.slice s.go s.gn s.gc) ∧ w'.cell? ⟨b', off' + k * 10, none⟩ = some (.int .i64 a.id) ∧ w'.cell? ⟨b', off' + k * 10 + 1, none⟩ = some (.slice a.po a.pn a.pc) ∧ w'.cell? ⟨b', off' + k * 10 + 2, none⟩ = some (.int .i64 a.nodes) ∧ w'.cell? ⟨b', off' + k * 10 + 3, none⟩ = some (.int .i64 a.v.a) ∧ w'.cell? ⟨b', off' + k * 10 + 4, none⟩ = some (.int .i64 a.v.b) ∧ w'.cell? ⟨b', off' + k * 10 + 5, none⟩ = some (.int .i64 a.v.c) ∧ w'.cell? ⟨b', off' + k * 10 + 6, none⟩ = some (.int .i64 a.v.d) ∧ w'.cell? ⟨b', off' + k * 10 + 7, none⟩ = some (.int .i64 a.ticks) ∧ w'.cell? ⟨b', off' + k * 10 + 8, none⟩ = some (.int .i64 a.start) ∧ w'.cell? ⟨b', off' + k * 10 + 9, none⟩ = some (.slice a.go a.gn a.gc))
        (first
          | with_reducible exact hS.out _ hcur.out)
        (fail)
      have hlowB := hlowA.out.trans (hcur.out.mono hlowA.out.size)
      replace hlowB := Lib.hid hlowB
      by_cases qi : s.id = a.id
      rotate_left
      · have di : (s.id != a.id) = true := by simpa using qi
        have hbf : b = false := by
          rcases hcase.out with ⟨_, m2, h, _⟩ | ⟨h, _⟩
          · exact absurd h.1 qi
          · exact h
        subst hbf
        replace qi := Lib.hid qi
        go_wp2
        go_ret
        exact ⟨rfl, hlowB.out⟩
      have di : (s.id != a.id) = false := by simpa using qi
      by_cases qs : s.start < 0
      · have ds : decide (s.start < 0) = true := by simpa using qs
        by_cases qn : s.start = -1 ∧ s.gn = 0
        · have hgo : k < K ∧ Chain (MayOne now bs) (((asks.zip slots).take K).drop (k + 1)) mm mK := by
            rcases hcase.out with ⟨h1, m2, h, h2⟩ | ⟨_, h⟩
            · refine ⟨h1, ?_⟩
              rcases h.2 with ⟨_, _, e⟩ | ⟨e, _⟩
              · rw [← e]; exact h2
              · have e' : 0 ≤ s.start := e
                omega
            · rcases h with h | ⟨_, _, h⟩ | ⟨_, h, _⟩ | ⟨_, h, _⟩
              · exact absurd qi h
              · exact absurd qn h
              · have e' : 0 ≤ s.start := h
                omega
              · have e' : 0 ≤ s.start := h
                omega
          obtain ⟨hkK, hC2⟩ := hgo
          have d1 : (s.start != -1) = false := by simpa using qn.1
          have d2 : ((s.gn : Int) != 0) = false := by have := qn.2; simp; omega
          have hb2 : Below wr.heap.size wr WA.drew := hbA.out.drew
          have hp2 := blk_below hb2 hp.out (blk_lt hp.out)
          have hr2 := hr.out.below hb2 (Nat.le_refl _)
          have htw2 : Twin rs mm (m + (k + 1)) := ⟨htw.out.len, fun i hi => ⟨(htw.out.one i hi).1, (htw.out.one i hi).2.1, by have := (htw.out.one i hi).2.2; omega⟩⟩
          replace qi := Lib.hid qi; replace qs := Lib.hid qs; replace qn := Lib.hid qn; replace hC2 := Lib.hid hC2; replace hb2 := Lib.hid hb2; replace hp2 := Lib.hid hp2; replace hr2 := Lib.hid hr2; replace htw2 := Lib.hid htw2
          go_wp2
          go_roundw
          case rel => exact ⟨k + 1, mm, rs, ro, rn, rc, by go_num, by omega, hlowB.out, hp2.out, hr2.out, htw2.out, h16.out, hC2.out⟩
          case measure => simp [intOf]; omega
        · have hbf : b = false := by
            rcases hcase.out with ⟨_, m2, h, _⟩ | ⟨h, _⟩
            · rcases h.2 with ⟨e1, e2, _⟩ | ⟨e, _⟩
              · exact absurd ⟨e1, e2⟩ qn
              · have e' : 0 ≤ s.start := e
                omega
            · exact h
          subst hbf
          by_cases q1 : s.start = -1
          · have d1 : (s.start != -1) = false := by simpa using q1
            have d2 : ((s.gn : Int) != 0) = true := by have : s.gn ≠ 0 := fun e => qn ⟨q1, e⟩; simp; omega
            replace qi := Lib.hid qi; replace qs := Lib.hid qs; replace qn := Lib.hid qn; replace q1 := Lib.hid q1
            go_wp2
            go_ret
            exact ⟨rfl, hlowB.out⟩
          · have d1 : (s.start != -1) = true := by simpa using q1
            replace qi := Lib.hid qi; replace qs := Lib.hid qs; replace qn := Lib.hid qn; replace q1 := Lib.hid q1
            go_wp2
            go_ret
            exact ⟨rfl, hlowB.out⟩
      have ds : decide (s.start < 0) = false := by simpa using qs
      have hs0 : (0 : Int) ≤ s.start := by omega
      have hnp : ¬ TakePre bs now a s.start s.gzs → b = false := fun h => by
        rcases hcase.out with ⟨_, m2, h1, _⟩ | ⟨h1, _⟩
        · rcases h1.2 with ⟨e, _⟩ | ⟨_, e, _⟩
          · exact absurd (show s.start = -1 from e) (by omega)
          · exact absurd e h
        · exact h1
      have hcan := rcan_any a WA.drew
      have hof := fun W' (h : Below WA.heap.size WA W') => rof_any un uc uo bs a s.go s.gn s.gc s.gzs W' (hu.out.below (hlowA.out.trans (h.mono hlowA.out.size)) (Nat.le_refl _)) ((hao.out.below' (hlowA.out.trans (h.mono hlowA.out.size))).places) hun ((hso.out.below (hlowA.out.trans (h.mono hlowA.out.size))).gang)
      obtain ⟨cn, hcn⟩ : ∃ cn, cn = a.can := ⟨_, rfl⟩
      rw [← hcn] at hcan
      replace hcan := Lib.hid hcan; replace hof := Lib.hid hof; replace hcn := Lib.hid hcn; replace hnp := Lib.hid hnp; replace qi := Lib.hid qi
      clear z0 z1 z2 lz
      have zz := hS.out _ hcur.out
      obtain ⟨zp, z0, z1, z2, a0, a1, a2, a3, a4, a5, a6, a7, a8, a9⟩ := zz
      go_wp2_with fail
      refine hcan.out.mono ?_
      rintro e w3 ⟨rfl, hb3⟩
      have hcur3 := hcur.out.trans (hb3.mono hcur.out.size)
      replace hcur := Lib.hid hcur3
      replace hb3 := Lib.hid hb3
      clear hcur3 zp z0 z1 z2 a0 a1 a2 a3 a4 a5 a6 a7 a8 a9
      have hcur3 := Lib.hid hcur.out.drew
      go_upto_region 14 with fail
      go_cut [18] (fun gv wx => OfC WA bs a s.gzs gv wx)
      case first =>
        go_region_held3 (fun w' => w'.cell? ⟨w1.heap.size, 0, none⟩ = some (.slice ro rn rc) ∧ w'.cell? ⟨wr.heap.size, 0, none⟩ = some (.int .i64 s.id) ∧ w'.cell? ⟨wr.heap.size, 1, none⟩ = some (.int .i64 s.start) ∧ w'.cell? ⟨wr.heap.size, 2, none⟩ = some (.slice s.go s.gn s.gc) ∧ w'.cell? ⟨b', off' + k * 10, none⟩ = some (.int .i64 a.id) ∧ w'.cell? ⟨b', off' + k * 10 + 1, none⟩ = some (.slice a.po a.pn a.pc) ∧ w'.cell? ⟨b', off' + k * 10 + 2, none⟩ = some (.int .i64 a.nodes) ∧ w'.cell? ⟨b', off' + k * 10 + 3, none⟩ = some (.int .i64 a.v.a) ∧ w'.cell? ⟨b', off' + k * 10 + 4, none⟩ = some (.int .i64 a.v.b) ∧ w'.cell? ⟨b', off' + k * 10 + 5, none⟩ = some (.int .i64 a.v.c) ∧ w'.cell? ⟨b', off' + k * 10 + 6, none⟩ = some (.int .i64 a.v.d) ∧ w'.cell? ⟨b', off' + k * 10 + 7, none⟩ = some (.int .i64 a.ticks) ∧ w'.cell? ⟨b', off' + k * 10 + 8, none⟩ = some (.int .i64 a.start) ∧ w'.cell? ⟨b', off' + k * 10 + 9, none⟩ = some (.slice a.go a.gn a.gc))
          (first
            | with_reducible exact hS.out _ hcur.out
            | with_reducible exact hS.out _ hcur3.out)
          (first
            | (go_at_call 85
               refine (hof.out _ hcur3.out).mono ?_
               rintro e w4 ⟨bo, rfl, hbo, hb4⟩
               replace hcur := Lib.hid (hcur3.out.trans (hb4.mono hcur3.out.size))
               replace hbo := Lib.hid hbo; replace hb4 := Lib.hid hb4))
        all_goals
          go_wp2_with fail
          go_meet
          exact ⟨⟨bo, rfl, hbo.out, hcur.out⟩⟩
      case rest =>
        obtain ⟨g, rfl, hg, hb4⟩ := hcut.ex
        clear hcut
        have hg' := Lib.hid hg
        clear hg
        have hlow4 := hlowA.out.trans (hb4.mono hlowA.out.size)
        have zz := hS.out _ hb4
        obtain ⟨zp, z0, z1, z2, a0, a1, a2, a3, a4, a5, a6, a7, a8, a9⟩ := zz
        replace hb4 := Lib.hid hb4; replace hlow4 := Lib.hid hlow4
        have hbad : ¬ TakePre bs now a s.start s.gzs → (fun e w' => e = Ending.returned (.bool b) ∧ Below w.heap.size w w') (Ending.returned (.bool false)) wc := fun h => ⟨by rw [hnp.out h], hlow4.out⟩
        replace hbad := Lib.hid hbad
        cases cn with
        | false =>
          have hf := hbad.out (fun h => by have := h.1; rw [← hcn.out] at this; cases this)
          replace hf := Lib.hid hf
          go_wp2
          go_ret
          exact hf.out
        | true =>
        cases g with
        | false =>
          have hf := hbad.out (fun h => by have := hg'.out.2 h.2.2.2; cases this)
          replace hf := Lib.hid hf
          go_wp2
          go_ret
          exact hf.out
        | true =>
        by_cases q1 : s.start < now
        · have d1 : decide (s.start < now) = true := by simpa using q1
          have hf := hbad.out (fun h => by have := h.2.1; omega)
          replace hf := Lib.hid hf; replace q1 := Lib.hid q1
          go_wp2
          go_ret
          exact hf.out
        have d1 : decide (s.start < now) = false := by simpa using q1
        by_cases q2 : 1099511627776 < s.start
        · have d2 : decide (1099511627776 < s.start) = true := by simpa using q2
          have hf := hbad.out (fun h => by have := h.2.2.1; omega)
          replace hf := Lib.hid hf; replace q1 := Lib.hid q1; replace q2 := Lib.hid q2
          go_wp2
          go_ret
          exact hf.out
        have d2 : decide (1099511627776 < s.start) = false := by simpa using q2
        have hpre : TakePre bs now a s.start s.gzs := ⟨hcn.out.symm, by omega, by omega, hg'.out.1 rfl⟩
        have htk0 : 0 < a.ticks := by
          have h := hcn.out
          unfold Ask.can at h
          simp at h
          exact h.1.2
        obtain ⟨T, hT⟩ : ∃ T, T = endT s.start a.ticks := ⟨_, rfl⟩
        have hlong : ∀ W' : World, Calls Try.prog 86 #[.int .i64 s.start, .int .i64 a.ticks] W' fun e w' => e = .returned (.int .i64 T) ∧ w' = W' := fun W' => by
          rw [hT]; exact rlong_any s.start a.ticks W' hs0 (by omega) (by omega)
        have hbw4 : Below wr.heap.size wr wc := hbA.out.trans (hb4.out.mono hbA.out.size)
        have hr4 := hr.out.below hbw4 (Nat.le_refl _)
        have hch : ∀ W', Below wc.heap.size wc W' → Calls Try.prog 77 #[.agg #[.slice ro rn rc], .slice s.go s.gn s.gc, .int .i64 s.start, .int .i64 T, a.v.val, .bool false] W' (ChgPost false rs mm s.gzs s.start T a.v W') :=
          fun W' h => rchg_any false (.slice ro rn rc) rs mm (m + k) s.go s.gn s.gc s.gzs s.start T a.v W' (htw.out.pool (hr4.below h (Nat.le_refl _))) ((hso.out.below (hlow4.out.trans (h.mono hlow4.out.size))).gang) (by omega) h16.out
        have hS4 : Hid (∀ w' : World, Below wc.heap.size wc w' → w'.cell? ⟨w1.heap.size, 0, none⟩ = some (.slice ro rn rc) ∧ w'.cell? ⟨wr.heap.size, 0, none⟩ = some (.int .i64 s.id) ∧ w'.cell? ⟨wr.heap.size, 1, none⟩ = some (.int .i64 s.start) ∧ w'.cell? ⟨wr.heap.size, 2, none⟩ = some (.slice s.go s.gn s.gc) ∧ w'.cell? ⟨b', off' + k * 10, none⟩ = some (.int .i64 a.id) ∧ w'.cell? ⟨b', off' + k * 10 + 1, none⟩ = some (.slice a.po a.pn a.pc) ∧ w'.cell? ⟨b', off' + k * 10 + 2, none⟩ = some (.int .i64 a.nodes) ∧ w'.cell? ⟨b', off' + k * 10 + 3, none⟩ = some (.int .i64 a.v.a) ∧ w'.cell? ⟨b', off' + k * 10 + 4, none⟩ = some (.int .i64 a.v.b) ∧ w'.cell? ⟨b', off' + k * 10 + 5, none⟩ = some (.int .i64 a.v.c) ∧ w'.cell? ⟨b', off' + k * 10 + 6, none⟩ = some (.int .i64 a.v.d) ∧ w'.cell? ⟨b', off' + k * 10 + 7, none⟩ = some (.int .i64 a.ticks) ∧ w'.cell? ⟨b', off' + k * 10 + 8, none⟩ = some (.int .i64 a.start) ∧ w'.cell? ⟨b', off' + k * 10 + 9, none⟩ = some (.slice a.go a.gn a.gc)) := fun w' h => hS.out _ (hb4.out.trans (h.mono hb4.out.size))
        clear hS
        have hS := hS4
        clear hS4
        have hp4 := blk_below hbw4 hp.out (blk_lt hp.out)
        have hcur : Below wc.heap.size wc wc.drew := (Below.refl _ _).drew
        have hcz : Below wc.heap.size wc (wc.alloc (.cells #[.slice none 0 0] 67 (0, 0))).drew := ((Below.refl _ _).alloc (Nat.le_refl _) _).drew
        replace hpre := Lib.hid hpre; replace htk0 := Lib.hid htk0; replace hT := Lib.hid hT; replace hlong := Lib.hid hlong; replace hbw4 := Lib.hid hbw4; replace hr4 := Lib.hid hr4; replace hch := Lib.hid hch; replace hp4 := Lib.hid hp4; replace hcur := Lib.hid hcur; replace hcz := Lib.hid hcz; replace q1 := Lib.hid q1; replace q2 := Lib.hid q2
        clear zp z0 z1 z2 a0 a1 a2 a3 a4 a5 a6 a7 a8 a9
        have zz := hS.out _ (Below.refl wc.heap.size wc)
        obtain ⟨zp, z0, z1, z2, a0, a1, a2, a3, a4, a5, a6, a7, a8, a9⟩ := zz
        go_upto_region 17 with fail
        clear zp z0 z1 z2 a0 a1 a2 a3 a4 a5 a6 a7 a8 a9
        obtain ⟨W9, hW9⟩ : ∃ W9, W9 = wc := ⟨_, rfl⟩
        subst hW9
        go_cut [19, 20] (fun xv ev wx => ChgC W9 false rs mm s.gzs s.start T a.v xv ev wx)
        case first =>
          go_region_held3 (fun w' => w'.cell? ⟨w1.heap.size, 0, none⟩ = some (.slice ro rn rc) ∧ w'.cell? ⟨wr.heap.size, 0, none⟩ = some (.int .i64 s.id) ∧ w'.cell? ⟨wr.heap.size, 1, none⟩ = some (.int .i64 s.start) ∧ w'.cell? ⟨wr.heap.size, 2, none⟩ = some (.slice s.go s.gn s.gc) ∧ w'.cell? ⟨b', off' + k * 10, none⟩ = some (.int .i64 a.id) ∧ w'.cell? ⟨b', off' + k * 10 + 1, none⟩ = some (.slice a.po a.pn a.pc) ∧ w'.cell? ⟨b', off' + k * 10 + 2, none⟩ = some (.int .i64 a.nodes) ∧ w'.cell? ⟨b', off' + k * 10 + 3, none⟩ = some (.int .i64 a.v.a) ∧ w'.cell? ⟨b', off' + k * 10 + 4, none⟩ = some (.int .i64 a.v.b) ∧ w'.cell? ⟨b', off' + k * 10 + 5, none⟩ = some (.int .i64 a.v.c) ∧ w'.cell? ⟨b', off' + k * 10 + 6, none⟩ = some (.int .i64 a.v.d) ∧ w'.cell? ⟨b', off' + k * 10 + 7, none⟩ = some (.int .i64 a.ticks) ∧ w'.cell? ⟨b', off' + k * 10 + 8, none⟩ = some (.int .i64 a.start) ∧ w'.cell? ⟨b', off' + k * 10 + 9, none⟩ = some (.slice a.go a.gn a.gc))
            (first
              | with_reducible exact hS.out _ hcur.out
              | with_reducible exact hS.out _ hcz.out
              | with_reducible exact hS.out _ (hcur.out.alloc hcur.out.size _)
              | with_reducible exact hS.out _ (hcur.out.setCell (Nat.le_refl _) _)
              | with_reducible exact hS.out _ ((hcur.out.alloc hcur.out.size _).setCell hcur.out.size _))
            (first
              | (go_at_call 86
                 refine (hlong.out _).mono ?_
                 rintro e w4 ⟨rfl, rfl⟩)
                | (go_at_call 77
                   refine (hch.out _ hcur.out).mono ?_
                   rintro e w5 ⟨r5, s5, rs5, rfl, hC5, hr5, hb5⟩
                   obtain ⟨so5, sc5, rfl, _⟩ := hr5.1.form
                   replace hcur := Lib.hid (hcur.out.trans (hb5.mono hcur.out.size))
                   replace hC5 := Lib.hid hC5; replace hr5 := Lib.hid hr5; replace hb5 := Lib.hid hb5)
                | (go_at_call 77
                   refine (hch.out _ hcz.out).mono ?_
                   rintro e w5 ⟨r5, s5, rs5, rfl, hC5, hr5, hb5⟩
                   obtain ⟨so5, sc5, rfl, _⟩ := hr5.1.form
                   have hz5 : w5.heap[W9.heap.size]? = some (.cells #[.slice none 0 0] 67 (0, 0)) := (hb5.block W9.heap.size (by simp)).trans (blk_new W9 _)
                   have z0 := blk_cell hz5 0
                   have fz := blk_free hz5 0
                   simp at z0
                   have lz := blk_lt hz5
                   replace hcur := Lib.hid (hcz.out.trans (hb5.mono hcz.out.size))
                   replace hz5 := Lib.hid hz5; replace hC5 := Lib.hid hC5; replace hr5 := Lib.hid hr5; replace hb5 := Lib.hid hb5)
            )
          all_goals
            go_wp2_with fail
            go_meet
            first
              | exact ⟨⟨w5.heap.size, r5, so5, _, sc5, rs5, rfl, rfl, hC5.out, hr5.out.below ((Below.refl _ _).alloc (Nat.le_refl _) _) (Nat.le_refl _), blk_new _ _, hcur.out.size, hcur.out.alloc hcur.out.size _⟩⟩
              | exact ⟨⟨W9.heap.size, r5, so5, _, sc5, rs5, rfl, rfl, hC5.out, hr5.out.setQ hz5.out _, (by show _ = _; rw [blk_set hz5.out]; rfl), Nat.le_refl _, hcur.out.setCell (Nat.le_refl _) _⟩⟩
        case rest =>
          obtain ⟨X, r5, so5, n5, c5, rs5, rfl, rfl, hC5, hr5, hX5, hXl, hb5⟩ := hcut.ex
          have hp5 := blk_below hb5 hp4.out (blk_lt hp4.out)
          have hlow5 := hlow4.out.trans (hb5.mono hlow4.out.size)
          clear hcut
          rcases hcase.out with ⟨hkK, m2, hM, hC2⟩ | ⟨hbf, hB⟩
          · have hTk : TookL mm s.gzs s.start T a.v 0 m2 := by
              rcases hM.2 with ⟨e, _⟩ | ⟨_, _, e⟩
              · exact absurd (show s.start = -1 from e) (by omega)
              · rw [hT.out]; exact e
            obtain ⟨e0, htw2⟩ := tookL_chg htw.out hTk hC5
            subst e0
            have h162 : m2.length ≤ 16 := by rw [hTk.2.len]; exact h16.out
            have hxc := blk_cell hX5 0
            have fp := blk_free hp5 0
            have pc := blk_cell hp5 0
            simp at hxc pc
            have lX := blk_lt hX5
            have lp5 := blk_lt hp5
            have hrn : RRow (wc.setCell ⟨w1.heap.size, 0, none⟩ (.slice so5 n5 c5)) (.slice so5 n5 c5) rs5 := hr5.setQ hp5 _
            have hpn : (wc.setCell ⟨w1.heap.size, 0, none⟩ (.slice so5 n5 c5)).heap[w1.heap.size]? = some (.cells #[.slice so5 n5 c5] 67 (0, 0)) := by rw [blk_set hp5]; rfl
            have hln : Below w.heap.size w (wc.setCell ⟨w1.heap.size, 0, none⟩ (.slice so5 n5 c5)) := hlow5.setCell hb1.out.size _
            replace hC5 := Lib.hid hC5; replace hr5 := Lib.hid hr5; replace hX5 := Lib.hid hX5; replace hb5 := Lib.hid hb5; replace hp5 := Lib.hid hp5; replace hlow5 := Lib.hid hlow5; replace hM := Lib.hid hM; replace hTk := Lib.hid hTk; replace hC2 := Lib.hid hC2; replace htw2 := Lib.hid htw2; replace h162 := Lib.hid h162; replace hrn := Lib.hid hrn; replace hpn := Lib.hid hpn; replace hln := Lib.hid hln
            go_wp2
            go_roundw
            case rel => exact ⟨k + 1, m2, rs5, so5, n5, c5, by go_num, by omega, hln.out, hpn.out, hrn.out, htw2.out, h162.out, hC2.out⟩
            case measure => simp [intOf]; omega
          · obtain ⟨r, q', hr0, hTk⟩ : ∃ r q', r ≠ 0 ∧ TookL mm s.gzs s.start T a.v r q' := by
              rw [hT.out]
              rcases hB with h | ⟨_, h, _⟩ | ⟨_, _, h⟩ | ⟨_, _, _, h⟩
              · exact absurd qi.out h
              · exact absurd (show s.start < 0 from h) (by omega)
              · exact absurd hpre.out h
              · exact h
            obtain ⟨e0, _⟩ := tookL_chg htw.out hTk hC5
            subst e0
            have dr : (r != 0) = true := by simpa using hr0
            subst hbf
            replace hC5 := Lib.hid hC5; replace hr5 := Lib.hid hr5; replace hX5 := Lib.hid hX5; replace hb5 := Lib.hid hb5; replace hp5 := Lib.hid hp5; replace hlow5 := Lib.hid hlow5; replace hr0 := Lib.hid hr0; replace hTk := Lib.hid hTk; replace hB := Lib.hid hB
            go_wp2
            go_ret
            exact ⟨rfl, hlow5.out⟩
    · have hc1 : ¬ (k : Int) < sn := by omega
      have hbt : b = true := by
        rcases hKr.out with ⟨h, _⟩ | ⟨_, h, _⟩
        · exact h
        · omega
      subst hbt
      go_wp2
      go_ret
      exact ⟨rfl, hlow.out⟩
end Go.Proofs.Ytpjajiambbobhaa
