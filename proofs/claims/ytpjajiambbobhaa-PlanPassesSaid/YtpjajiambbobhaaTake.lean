/- (*Profile).Take and Give, walked. -/
import Derived.Test.YtpjajiambbobhaaChgw
import Derived.Test.YtpjajiambbobhaaMost
namespace Go.Proofs.Ytpjajiambbobhaa
open Go.RowKit

def spanL (fr to : Int) (v : V4) : Bool := decide (0 ≤ fr) && decide (fr < to) && decide (to ≤ 1099511627776) && v.right

theorem span_any (fr to : Int) (v : V4) (w : World) :
    Calls Try.prog 61 #[.int .i64 fr, .int .i64 to, v.val] w fun e w' => e = .returned (.bool (spanL fr to v)) ∧ Below w.heap.size w w' := by
  by_cases h1 : 0 ≤ fr
  · by_cases h2 : fr < to
    · by_cases h3 : to ≤ 1099511627776
      · have hs : spanL fr to v = v.right := by simp [spanL, h1, h2, h3]
        rw [hs]
        clear hs
        go_enter Try.func61, Try.ntmps61
        go_wp2_with fail
        refine (right_any v _).mono ?_
        rintro e w2 ⟨rfl, hb2⟩
        go_wp2
        go_ret
        exact ⟨rfl, ((Below.refl _ _).alloc (Nat.le_refl _) _).trans (hb2.mono (by simp))⟩
      · have hs : spanL fr to v = false := by simp [spanL, h3]
        rw [hs]
        clear hs
        go_enter Try.func61, Try.ntmps61
        go_wp2
        go_ret
        exact ⟨rfl, (Below.refl _ _).alloc (Nat.le_refl _) _⟩
    · have hs : spanL fr to v = false := by simp [spanL, h2]
      rw [hs]
      clear hs
      go_enter Try.func61, Try.ntmps61
      go_wp2
      go_ret
      exact ⟨rfl, (Below.refl _ _).alloc (Nat.le_refl _) _⟩
  · have hs : spanL fr to v = false := by simp [spanL, h1]
    rw [hs]
    clear hs
    go_enter Try.func61, Try.ntmps61
    go_wp2
    go_ret
    exact ⟨rfl, (Below.refl _ _).alloc (Nat.le_refl _) _⟩

theorem enters64 : ∀ args w, (callFunc 64 args).run Try.prog w = .ok (.enter 64 args) w := enters Try.func64 (by decide) (by simp [Try.f64])
theorem enters68 : ∀ args w, (callFunc 68 args).run Try.prog w = .ok (.enter 68 args) w := enters Try.func68 (by decide) (by simp [Try.f68])

theorem take1_any (s v : V4) (vb : Nat) (w : World) (hv : w.heap[vb]? = some (.cells v.cells 23 (0, 0))) :
    Calls Try.prog 64 #[s.val, .pointer (some ⟨vb, 0, none⟩)] w fun e w' => e = .returned (s.sub v).1.val ∧ Below w.heap.size w w' := by
  have c0 := blk_cell hv 0; have c1 := blk_cell hv 1; have c2 := blk_cell hv 2; have c3 := blk_cell hv 3
  simp at c0 c1 c2 c3
  have lv := blk_lt hv
  clear hv
  go_enter Try.func64, Try.ntmps64
  go_wp2_with fail
  refine (sub_any s v _).mono ?_
  rintro e w2 ⟨rfl, hb2⟩
  have hB2 : Below w.heap.size w w2 := (((Below.refl _ _).alloc (Nat.le_refl _) _).alloc (by simp) _).trans (hb2.mono (by simp; omega))
  have g0 := blk_below hb2 (blk_old _ (blk_new _ _)) (by simp; omega)
  have g1 := blk_below hb2 (blk_at (b := w.heap.size + 1) _ _ (by simp)) (by simp)
  have e0 := blk_cell g0; have f0 := blk_free g0; have e1 := blk_cell g1; have f1 := blk_free g1
  replace hb2 := Lib.hid hb2; replace hB2 := Lib.hid hB2
  clear g0 g1 c0 c1 c2 c3
  obtain ⟨r, hr⟩ : ∃ r, r = s.sub v := ⟨_, rfl⟩
  rw [← hr]
  replace hr := Lib.hid hr
  go_wp2
  refine bodyPost_ret (v := r.1.val) (by simp [results, Try.results64, go_sem, e1]) rfl ⟨by rw [hr.out], ?_⟩
  repeat (refine Below.setCell ?_ (by simp) _)
  exact hB2.out

theorem give1_any (s v : V4) (vb : Nat) (w : World) (hv : w.heap[vb]? = some (.cells v.cells 23 (0, 0))) :
    Calls Try.prog 68 #[s.val, .pointer (some ⟨vb, 0, none⟩)] w fun e w' => e = .returned (s.add v).1.val ∧ Below w.heap.size w w' := by
  have c0 := blk_cell hv 0; have c1 := blk_cell hv 1; have c2 := blk_cell hv 2; have c3 := blk_cell hv 3
  simp at c0 c1 c2 c3
  have lv := blk_lt hv
  clear hv
  go_enter Try.func68, Try.ntmps68
  go_wp2_with fail
  refine (add_any s v _).mono ?_
  rintro e w2 ⟨rfl, hb2⟩
  have hB2 : Below w.heap.size w w2 := (((Below.refl _ _).alloc (Nat.le_refl _) _).alloc (by simp) _).trans (hb2.mono (by simp; omega))
  have g0 := blk_below hb2 (blk_old _ (blk_new _ _)) (by simp; omega)
  have g1 := blk_below hb2 (blk_at (b := w.heap.size + 1) _ _ (by simp)) (by simp)
  have e0 := blk_cell g0; have f0 := blk_free g0; have e1 := blk_cell g1; have f1 := blk_free g1
  replace hb2 := Lib.hid hb2; replace hB2 := Lib.hid hB2
  clear g0 g1 c0 c1 c2 c3
  obtain ⟨r, hr⟩ : ∃ r, r = s.add v := ⟨_, rfl⟩
  rw [← hr]
  replace hr := Lib.hid hr
  go_wp2
  refine bodyPost_ret (v := r.1.val) (by simp [results, Try.results68, go_sem, e1]) rfl ⟨by rw [hr.out], ?_⟩
  repeat (refine Below.setCell ?_ (by simp) _)
  exact hB2.out


/-- what Take makes of a profile's steps, and what it answers -/
def TakeRel (whole : V4) (l : List St) (fr to : Int) (v : V4) (r : Int) (l' : List St) : Prop :=
  (spanL fr to v = false ∧ r = 1 ∧ l' = l) ∨ (spanL fr to v = true ∧ v.fits (freeL whole l fr to) = false ∧ r = 60 ∧ l' = l) ∨
    (spanL fr to v = true ∧ v.fits (freeL whole l fr to) = true ∧ r = 0 ∧ ChangeRel l fr to (fun f => (f.sub v).1) l')
/-- a profile's steps have become others -/
def Became (pb sb : Nat) (whole : V4) (R : Int → List St → Prop) (w : World) (e : Ending) (w' : World) : Prop :=
  ∃ r sb' cap' l', e = .returned (.int .i64 r) ∧ R r l' ∧ Prof w' pb sb' cap' whole l' ∧ (sb' = sb ∨ w.heap.size ≤ sb') ∧ Mod (fun b => b = pb ∨ b = sb) w w'

theorem Prof.below {B pb sb cap : Nat} {w w' : World} {whole : V4} {l : List St} (h : Prof w pb sb cap whole l) (hb : Below B w w') (h1 : pb < B) (h2 : sb < B) : Prof w' pb sb cap whole l :=
  ⟨blk_below hb h.head h1, h.row.below hb h2, h.ne⟩
theorem Prof.drew {pb sb cap : Nat} {w : World} {whole : V4} {l : List St} (h : Prof w pb sb cap whole l) : Prof w.drew pb sb cap whole l := ⟨h.head, h.row.of_block rfl, h.ne⟩
theorem Prof.lt {pb sb cap : Nat} {w : World} {whole : V4} {l : List St} (h : Prof w pb sb cap whole l) : pb < w.heap.size ∧ sb < w.heap.size := ⟨blk_lt h.head, h.row.lt⟩

theorem spanL_true {fr to : Int} {v : V4} (h : spanL fr to v = true) : 0 ≤ fr ∧ fr < to ∧ to ≤ 1099511627776 ∧ v.right = true := by
  simp [spanL] at h; exact ⟨h.1.1.1, h.1.1.2, h.1.2, h.2⟩

set_option maxRecDepth 100000 in
set_option maxHeartbeats 1600000 in
theorem take_any (pb sb cap : Nat) (whole : V4) (l : List St) (fr to : Int) (v : V4) (w : World) (hp : Prof w pb sb cap whole l) (hl : Loose l) :
    Calls Try.prog 23 #[.pointer (some ⟨pb, 0, none⟩), .int .i64 fr, .int .i64 to, v.val] w (Became pb sb whole (TakeRel whole l fr to v) w) := by
  obtain ⟨lpb, lsb⟩ := hp.lt
  replace hp := Lib.hid hp; replace hl := Lib.hid hl
  go_enter Try.func23, Try.ntmps23
  go_wp2_with fail
  refine (span_any fr to v _).mono ?_
  rintro e w2 ⟨rfl, hb2⟩
  have hB2 : Below w.heap.size w w2 := ((Below.refl _ _).alloc (Nat.le_refl _) _).trans (hb2.mono (by simp))
  have g2 := blk_below hb2 (blk_new _ _) (by simp)
  have hp2 := hp.out.below hB2 lpb lsb
  have s2 := hB2.size
  have lvb := blk_lt g2
  replace hb2 := Lib.hid hb2; replace hB2 := Lib.hid hB2
  replace hp2 := Lib.hid hp2
  by_cases hs : spanL fr to v = true
  · rw [hs]
    obtain ⟨b1, b2, b3, b4⟩ := spanL_true hs
    have x0 := blk_cell g2 0; have x1 := blk_cell g2 1; have x2 := blk_cell g2 2; have x3 := blk_cell g2 3
    simp at x0 x1 x2 x3
    replace g2 := Lib.hid g2
    replace hs := Lib.hid hs; replace b4 := Lib.hid b4
    go_wp2_with fail
    have hpD : Hid (Prof w2.drew pb sb cap whole l) := hp2.out.drew
    go_region_held3 (fun w' => w'.cell? ⟨w.heap.size, 0, none⟩ = some (.int .i64 v.a) ∧ w'.cell? ⟨w.heap.size, 1, none⟩ = some (.int .i64 v.b) ∧ w'.cell? ⟨w.heap.size, 2, none⟩ = some (.int .i64 v.c) ∧ w'.cell? ⟨w.heap.size, 3, none⟩ = some (.int .i64 v.d))
      (first
        | go_keep
        | (have _t := hb4; go_split_ands; refine ⟨?_, ?_, ?_, ?_⟩ <;> (rw [below_cell hb4 (by omega)]; assumption))
        | (go_split_ands; refine ⟨?_, ?_, ?_, ?_⟩ <;> (rw [below_cell hb3 (by simpa using lvb)]; assumption)))
      (first
        | (go_at_call 22; refine (free_any pb sb cap whole l fr to _ hpD.out hl.out).mono ?_; rintro e w3 ⟨rfl, hb3⟩; have s3 := hb3.size; simp at s3)
        | (go_at_call 62; refine (fits_any v (freeL whole l fr to) _).mono ?_; rintro e w4 ⟨rfl, hb4⟩))
    have hB4 : Below w.heap.size w w4 := hB2.out.trans ((undrew hb3).mono (by simp; omega) |>.trans (hb4.mono (by omega)))
    have hp4 := hp.out.below hB4 lpb lsb
    have g4 := blk_below hb4 (blk_below (undrew hb3) g2.out (by simpa using lvb)) (by omega)
    have s4 := hB4.size
    replace hp4 := Lib.hid hp4; replace hB4 := Lib.hid hB4; replace g4 := Lib.hid g4
    replace hb3 := Lib.hid hb3; replace hb4 := Lib.hid hb4
    by_cases hf : v.fits (freeL whole l fr to) = true
    · simp only [hf]
      replace hf := Lib.hid hf
      go_wp2_with fail
      refine (change_any pb sb cap w.heap.size v whole l fr to 64 (fun f => (f.sub v).1) _ hp4.out hl.out b1 b2 b3 g4.out (by omega) (by omega) enters64 (fun s w1 h => take1_any s v _ w1 h)).mono ?_
      rintro e w5 ⟨rfl, sb', cap', l', hc, hp5, hs5, hm5⟩
      replace hc := Lib.hid hc; replace hp5 := Lib.hid hp5; replace hs5 := Lib.hid hs5; replace hm5 := Lib.hid hm5
      go_wp2
      go_ret
      refine ⟨0, sb', cap', l', rfl, .inr (.inr ⟨hs.out, hf.out, rfl, hc.out⟩), hp5.out, ?_, (Mod.of_below hB4.out).trans (hm5.out.mono fun k _ h => .inl h)⟩
      rcases hs5.out with h | h
      · exact .inl h
      · exact .inr (Nat.le_trans s4 h)
    · have hf' : v.fits (freeL whole l fr to) = false := by simpa using hf
      simp only [hf']
      replace hf' := Lib.hid hf'
      clear hf
      go_wp2
      go_ret
      exact ⟨60, sb, cap, l, rfl, .inr (.inl ⟨hs.out, hf'.out, rfl, rfl⟩), hp4.out, .inl rfl, Mod.of_below hB4.out⟩
  · have hs' : spanL fr to v = false := by simpa using hs
    rw [hs']
    replace hs' := Lib.hid hs'
    clear hs
    go_wp2
    go_ret
    exact ⟨1, sb, cap, l, rfl, .inl ⟨hs'.out, rfl, rfl⟩, hp2.out, .inl rfl, Mod.of_below hB2.out⟩
end Go.Proofs.Ytpjajiambbobhaa
