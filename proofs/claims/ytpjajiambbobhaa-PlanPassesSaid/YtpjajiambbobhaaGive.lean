/- (*Profile).Give, walked. -/
import Derived.Test.YtpjajiambbobhaaTake
import Derived.Deep.DeepCutAuto
namespace Go.Proofs.Ytpjajiambbobhaa
open Go.RowKit

/-- what Give makes of steps, and what it answers -/
def GiveRel (whole : V4) (l : List St) (fr tt : Int) (v : V4) (r : Int) (l' : List St) : Prop :=
  (spanL fr tt v = false ∧ r = 1 ∧ l' = l) ∨ (spanL fr tt v = true ∧ ¬ (((mostL l fr tt).add v).2 = 0 ∧ ((mostL l fr tt).add v).1.fits whole = true) ∧ r = 61 ∧ l' = l) ∨
    (spanL fr tt v = true ∧ ((mostL l fr tt).add v).2 = 0 ∧ ((mostL l fr tt).add v).1.fits whole = true ∧ r = 0 ∧ ChangeRel l fr tt (fun f => (f.add v).1) l')

theorem bcell {W w1 : World} (hb : Below W.heap.size W w1) : (∀ b o, b < W.heap.size → w1.cell? ⟨b, o, none⟩ = W.cell? ⟨b, o, none⟩) ∧ (∀ b o, b < W.heap.size → w1.frozen? ⟨b, o, none⟩ = W.frozen? ⟨b, o, none⟩) :=
  ⟨fun b o h => hb.cell (p := ⟨b, o, none⟩) h, fun b o h => hb.frozen (p := ⟨b, o, none⟩) h⟩

theorem below_drewN (B : Nat) (w : World) (n : Nat) : Below B w (w.drewN n) := ⟨rfl, rfl, rfl, Nat.le_refl _, fun _ _ => rfl⟩

/-- the sum lies in a variable of the call's own, wherever that is -/
def GiveCut (w2 : World) (r : V4 × Int) (s9 s10 : Value) (wx : World) : Prop :=
  ∃ g : Nat, s9 = .pointer (some ⟨g, 0, none⟩) ∧ s10 = .int .i64 r.2 ∧ w2.heap.size ≤ g ∧ wx.heap[g]? = some (.cells r.1.cells 23 (0, 0)) ∧ Below w2.heap.size w2 wx

def World.setV (w : World) (b : Nat) (v : V4) : World :=
  (((w.setCell ⟨b, 0, none⟩ (.int .i64 v.a)).setCell ⟨b, 1, none⟩ (.int .i64 v.b)).setCell ⟨b, 2, none⟩ (.int .i64 v.c)).setCell ⟨b, 3, none⟩ (.int .i64 v.d)
theorem setV_blk {w : World} {b : Nat} {u : V4} (h : w.heap[b]? = some (.cells u.cells 23 (0, 0))) (v : V4) : (World.setV w b v).heap[b]? = some (.cells v.cells 23 (0, 0)) := by
  unfold World.setV
  rw [blk_set (blk_set (blk_set (blk_set h _ _) _ _) _ _) _ _]; simp
theorem setV_below {B : Nat} {w w' : World} (h : Below B w w') {b : Nat} (hb : B ≤ b) (v : V4) : Below B w (World.setV w' b v) :=
  (((h.setCell hb _).setCell hb _).setCell hb _).setCell hb _

theorem give_cut1 {w2 w3 w4 : World} {r : V4 × Int} (hb3 : Below w2.drew.heap.size w2.drew w3) (hb4 : Below w3.heap.size w3 w4) :
    GiveCut w2 r (.pointer (some ⟨w4.heap.size, 0, none⟩)) (.int .i64 r.2) (w4.alloc (.cells r.1.cells 23)) := by
  have s3 := (undrew hb3).size
  have s4 := hb4.size
  exact ⟨_, rfl, rfl, by omega, blk_new _ _, ((undrew hb3).trans (hb4.mono s3)).alloc (by show w2.heap.size ≤ _; omega) _⟩
theorem give_cut2 {w2 w3 w4 : World} {r : V4 × Int} (hb3 : Below w2.drew.heap.size w2.drew w3) (hb4 : Below (w3.alloc (.cells V4.zero.cells 23)).heap.size (w3.alloc (.cells V4.zero.cells 23)) w4) :
    GiveCut w2 r (.pointer (some ⟨w3.heap.size, 0, none⟩)) (.int .i64 r.2) (World.setV w4 w3.heap.size r.1) := by
  have s3 := (undrew hb3).size
  have s4 := hb4.size
  simp at s4
  refine ⟨_, rfl, rfl, s3, setV_blk (blk_below hb4 (blk_new _ _) (by simp)) _, setV_below ?_ s3 _⟩
  exact ((undrew hb3).alloc s3 _).trans (hb4.mono (by simp; exact Nat.le_succ_of_le s3))
theorem give_cut3 {w2 w3 w4 : World} {r : V4 × Int} (hb3 : Below (w2.alloc (.cells V4.zero.cells 23)).drew.heap.size (w2.alloc (.cells V4.zero.cells 23)).drew w3) (hb4 : Below w3.heap.size w3 w4) :
    GiveCut w2 r (.pointer (some ⟨w2.heap.size, 0, none⟩)) (.int .i64 r.2) (World.setV w4 w2.heap.size r.1) := by
  have hb3' := undrew hb3
  have s3 := hb3'.size
  simp at s3
  refine ⟨_, rfl, rfl, Nat.le_refl _, setV_blk (blk_below hb4 (blk_below hb3' (blk_new _ _) (by simp)) (by omega)) _, setV_below ?_ (Nat.le_refl _) _⟩
  exact (((Below.refl _ _).alloc (Nat.le_refl _) _).trans (hb3'.mono (by simp))).trans (hb4.mono (by omega))

set_option maxRecDepth 100000 in
set_option maxHeartbeats 1600000 in
theorem give_any (pb sb cap : Nat) (whole : V4) (l : List St) (fr tt : Int) (v : V4) (w : World) (hp : Prof w pb sb cap whole l) (hl : Loose l) :
    Calls Try.prog 25 #[.pointer (some ⟨pb, 0, none⟩), .int .i64 fr, .int .i64 tt, v.val] w (Became pb sb whole (GiveRel whole l fr tt v) w) := by
  obtain ⟨lpb, lsb⟩ := hp.lt
  replace hp := Lib.hid hp; replace hl := Lib.hid hl
  go_enter Try.func25, Try.ntmps25
  go_wp2_with fail
  refine (span_any fr tt v _).mono ?_
  rintro e w2 ⟨rfl, hb2⟩
  have hB2 : Below w.heap.size w w2 := ((Below.refl _ _).alloc (Nat.le_refl _) _).trans (hb2.mono (by simp))
  have g2 := blk_below hb2 (blk_new _ _) (by simp)
  have hp2 := hp.out.below hB2 lpb lsb
  have s2 := hB2.size
  have lvb := blk_lt g2
  replace hb2 := Lib.hid hb2; replace hB2 := Lib.hid hB2
  replace hp2 := Lib.hid hp2
  by_cases hs : spanL fr tt v = true
  · rw [hs]
    obtain ⟨b1, b2, b3, b4⟩ := spanL_true hs
    have x0 := blk_cell g2 0; have x1 := blk_cell g2 1; have x2 := blk_cell g2 2; have x3 := blk_cell g2 3
    simp at x0 x1 x2 x3
    replace g2 := Lib.hid g2
    replace hs := Lib.hid hs; replace b4 := Lib.hid b4
    have hpD : Hid (Prof w2.drew pb sb cap whole l) := hp2.out.drew
    have hpE : Hid (∀ o, Prof (w2.alloc o).drew pb sb cap whole l) := fun o => (hp2.out.below ((Below.refl _ _).alloc (Nat.le_refl _) o) hp2.out.lt.1 hp2.out.lt.2).drew
    obtain ⟨r, hr⟩ : ∃ r, r = (mostL l fr tt).add v := ⟨_, rfl⟩
    have hadd : ∀ w, Calls Try.prog 66 #[(mostL l fr tt).val, v.val] w fun e w' => e = .returned (.tuple #[r.1.val, .int .i64 r.2]) ∧ Below w.heap.size w w' := by rw [hr]; exact add_any _ _
    replace hadd := Lib.hid hadd; replace hr := Lib.hid hr
    have lv1 : w.heap.size < w2.heap.size + 1 := by omega
    go_upto_region 3 with fail
    go_cut [9, 10] (fun s9 s10 wx => GiveCut w2 r s9 s10 wx)
    case first =>
      go_region_law
        (first
          | (go_simp
             go_at_call 67
             (first
               | refine (most_any pb sb cap whole l fr tt _ hpD.out hl.out b1 (by omega)).mono ?_
               | refine (most_any pb sb cap whole l fr tt _ (hpE.out _) hl.out b1 (by omega)).mono ?_)
             rintro e w3 ⟨rfl, hb3⟩
             have s3 := hb3.size
             obtain ⟨hc3, hf3⟩ := bcell hb3
             (try simp at s3)
             (try simp at hc3)
             (try simp at hf3)
             have lv3 : w.heap.size < w3.heap.size := by omega
             have lv4 : w.heap.size < w3.heap.size + 1 := by omega
             (try have la3 : w2.heap.size < w3.heap.size := by omega)
             replace hb3 := Lib.hid hb3)
          | (go_simp
             go_at_call 66
             refine (hadd.out _).mono ?_
             rintro e w4 ⟨rfl, hb4⟩
             have s4 := hb4.size
             obtain ⟨hc4, hf4⟩ := bcell hb4
             (try simp at s4)
             (try simp at hc4)
             (try simp at hf4)
             (try have la4 : w3.heap.size < w4.heap.size := by omega)
             (try have la5 : w2.heap.size < w4.heap.size := by omega)
             replace hb4 := Lib.hid hb4))
      all_goals
        go_wp2_with fail
        go_meet
        first
          | exact give_cut1 hb3.out hb4.out
          | exact give_cut2 hb3.out hb4.out
          | exact give_cut3 hb3.out hb4.out
    case rest =>
      obtain ⟨g, rfl, rfl, hg, hgb, hBx⟩ := hcut
      have hBw : Below w.heap.size w wc := hB2.out.trans (hBx.mono s2)
      have hpx := hp.out.below hBw lpb lsb
      have gv := blk_below hBx g2.out lvb
      have sx := hBw.size
      have e0 := blk_cell hgb 0; have e1 := blk_cell hgb 1; have e2 := blk_cell hgb 2; have e3 := blk_cell hgb 3
      have q0 := blk_cell hpx.head 0; have q1 := blk_cell hpx.head 1; have q2 := blk_cell hpx.head 2; have q3 := blk_cell hpx.head 3
      simp at e0 e1 e2 e3 q0 q1 q2 q3
      clear x0 x1 x2 x3
      replace hgb := Lib.hid hgb; replace hBx := Lib.hid hBx; replace hBw := Lib.hid hBw; replace hpx := Lib.hid hpx; replace gv := Lib.hid gv
      by_cases he : r.2 = 0
      · have he1 : (r.2 == 0) = true := by simpa using he
        have he2 : (r.2 != 0) = false := by simpa using he
        replace he := Lib.hid he
        go_wp2_with fail
        go_region_law
          (first
            | (go_simp
               go_at_call 62
               refine (fits_any r.1 whole _).mono ?_
               rintro e w5 ⟨rfl, hb5⟩
               replace hb5 := Lib.hid hb5))
        all_goals
          have hb5' := undrew hb5.out
          have hB5 : Below w.heap.size w w5 := hBw.out.trans (hb5'.mono (by simpa using sx))
          have hp5 := hp.out.below hB5 lpb lsb
          have gv5 := blk_below hb5' gv.out (by have := hBx.out.size; simp; omega)
          have s5 := hB5.size
          replace hp5 := Lib.hid hp5; replace hB5 := Lib.hid hB5; replace gv5 := Lib.hid gv5
          clear hb5'
          by_cases hf : r.1.fits whole = true
          · simp only [hf]
            replace hf := Lib.hid hf
            go_wp2_with fail
            refine (change_any pb sb cap w.heap.size v whole l fr tt 68 (fun f => (f.add v).1) _ hp5.out hl.out b1 b2 b3 gv5.out (by omega) (by omega) enters68 (fun s w1 h => give1_any s v _ w1 h)).mono ?_
            rintro e w6 ⟨rfl, sb', cap', l', hc, hp6, hs6, hm6⟩
            replace hc := Lib.hid hc; replace hp6 := Lib.hid hp6; replace hs6 := Lib.hid hs6; replace hm6 := Lib.hid hm6
            go_wp2
            go_ret
            refine ⟨0, sb', cap', l', rfl, .inr (.inr ⟨hs.out, by rw [← hr.out]; exact he.out, by rw [← hr.out]; exact hf.out, rfl, hc.out⟩), hp6.out, ?_, (Mod.of_below hB5.out).trans (hm6.out.mono fun k _ h => .inl h)⟩
            rcases hs6.out with h | h
            · exact .inl h
            · exact .inr (Nat.le_trans s5 h)
          · have hf' : r.1.fits whole = false := by simpa using hf
            simp only [hf']
            replace hf' := Lib.hid hf'
            clear hf
            go_wp2
            go_ret
            exact ⟨61, sb, cap, l, rfl, .inr (.inl ⟨hs.out, (fun h => by have := hf'.out; rw [hr.out, h.2] at this; cases this), rfl, rfl⟩), hp5.out, .inl rfl, Mod.of_below hB5.out⟩
      · have he1 : (r.2 == 0) = false := by simpa using he
        have he2 : (r.2 != 0) = true := by simpa using he
        replace he := Lib.hid he
        go_wp2_with fail
        go_quiet (fail)
        go_wp2
        go_ret
        exact ⟨61, sb, cap, l, rfl, .inr (.inl ⟨hs.out, (fun h => he.out (by rw [hr.out]; exact h.1)), rfl, rfl⟩), hpx.out.below (below_drewN _ _ _) hpx.out.lt.1 hpx.out.lt.2, .inl rfl, Mod.of_below (hBw.out.trans (below_drewN _ _ _))⟩
  · have hs' : spanL fr tt v = false := by simpa using hs
    rw [hs']
    replace hs' := Lib.hid hs'
    clear hs
    go_wp2
    go_ret
    exact ⟨1, sb, cap, l, rfl, .inl ⟨hs'.out, rfl, rfl⟩, hp2.out, .inl rfl, Mod.of_below hB2.out⟩
end Go.Proofs.Ytpjajiambbobhaa
