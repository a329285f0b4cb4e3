/- (*Profile).Earliest, walked. -/
import Derived.Test.YtpjajiambbobhaaTake
namespace Go.Proofs.Ytpjajiambbobhaa
open Go.RowKit

/-- an amount is free from a tick on for so many ticks -/
def OkAt (l : List St) (ticks : Int) (v : V4) (u : Int) : Prop :=
  ∀ k, k < l.length → (nth l k).t < u + ticks → (k + 1 < l.length → u < (nth l (k + 1)).t) → v.fits (nth l k).f = true

def EarlyRel (l : List St) (after ticks : Int) (v : V4) (t : Int) (is : Bool) : Prop :=
  if 1 ≤ ticks ∧ v.right = true ∧ after < 1099511627776 then
    (is = true ∧ max after 0 ≤ t ∧ t + ticks ≤ 1099511627776 ∧ OkAt l ticks v t ∧ ∀ u, max after 0 ≤ u → u < t → ¬ OkAt l ticks v u) ∨
      (is = false ∧ t = 0 ∧ ∀ u, max after 0 ≤ u → u + ticks ≤ 1099511627776 → ¬ OkAt l ticks v u)
  else t = 0 ∧ is = false

def EarlyPost (l : List St) (after ticks : Int) (v : V4) (w : World) (e : Ending) (w' : World) : Prop :=
  ∃ t is, e = .returned (.tuple #[.int .i64 t, .bool is]) ∧ EarlyRel l after ticks v t is ∧ Below w.heap.size w w'

theorem okAt_of {l : List St} {ticks t : Int} {v : V4} {p k : Nat} (hl : Loose l) (hp : IsPlace l t p) (hk : ∀ j, p ≤ j → j < k → v.fits (nth l j).f = true) (hend : k < l.length → t + ticks ≤ (nth l k).t) : OkAt l ticks v t := by
  intro j hj h1 h2
  have hpj : p ≤ j := by
    apply Classical.byContradiction
    intro hc
    have := h2 (by have := hp.1; omega)
    by_cases e : j + 1 = p
    · rw [e] at this; have := hp.2.1; omega
    · have := hl.rise (j + 1) p (by omega) hp.1; have := hp.2.1; omega
  refine hk j hpj ?_
  apply Classical.byContradiction
  intro hc
  have h3 := hend (by omega)
  by_cases e : j = k
  · subst e; omega
  · have := hl.rise k j (by omega) hj; omega

theorem not_okAt {l : List St} {ticks t u : Int} {v : V4} {k : Nat} (hk : k < l.length) (h1 : (nth l k).t < t + ticks) (hf : v.fits (nth l k).f = false) (hu : t ≤ u) (hn : k + 1 < l.length → u < (nth l (k + 1)).t) : ¬ OkAt l ticks v u := by
  intro h
  have := h k hk (by omega) hn
  rw [hf] at this; cases this

set_option maxRecDepth 100000 in
set_option maxHeartbeats 1600000 in
theorem early_any (pb sb cap : Nat) (whole : V4) (l : List St) (after ticks : Int) (v : V4) (w : World) (hp : Prof w pb sb cap whole l) (hl : Loose l) (ha : after ≤ 9223372036854775807) :
    Calls Try.prog 26 #[.pointer (some ⟨pb, 0, none⟩), .int .i64 after, .int .i64 ticks, v.val] w (EarlyPost l after ticks v w) := by
  obtain ⟨lpb, lsb⟩ := hp.lt
  have hlen := hl.len
  replace hp := Lib.hid hp; replace hl := Lib.hid hl
  by_cases h1 : 1 ≤ ticks
  · have hd1 : decide (ticks < 1) = false := by simp; omega
    go_enter Try.func26, Try.ntmps26
    go_wp2_with fail
    go_step3
    go_wp2_with fail
    refine (right_any v _).mono ?_
    rintro e w2 ⟨rfl, hb2⟩
    have hB2 : Below w.heap.size w w2 := ((Below.refl _ _).alloc (Nat.le_refl _) _).trans (hb2.mono (by simp))
    have g2 := blk_below hb2 (blk_new _ _) (by simp)
    have s2 := hB2.size
    replace hb2 := Lib.hid hb2; replace hB2 := Lib.hid hB2; replace g2 := Lib.hid g2
    by_cases hr : v.right = true
    · rw [hr]
      replace hr := Lib.hid hr
      by_cases ha2 : after < 1099511627776
      · obtain ⟨A, hA⟩ : ∃ A, A = max after 0 := ⟨_, rfl⟩
        have hmx : (if after < 0 then 0 else after) = A := by rw [hA]; omega
        have hA0 : 0 ≤ A := by omega
        have hA1 : A < 1099511627776 := by omega
        have hd2 : decide (1099511627776 ≤ after) = false := by simp; omega
        replace hA := Lib.hid hA
        have hrelD : EarlyRel l after ticks v = fun t is => (is = true ∧ A ≤ t ∧ t + ticks ≤ 1099511627776 ∧ OkAt l ticks v t ∧ ∀ u, A ≤ u → u < t → ¬ OkAt l ticks v u) ∨ (is = false ∧ t = 0 ∧ ∀ u, A ≤ u → u + ticks ≤ 1099511627776 → ¬ OkAt l ticks v u) := by
          funext t is
          unfold EarlyRel
          rw [if_pos ⟨h1, hr.out, ha2⟩, ← hA.out]
        replace hrelD := Lib.hid hrelD
        go_wp2
        go_step3
        go_wp2
        go_loopw [10, 11] (fun s10 _ wr => ∃ T : Int, s10 = .int .i64 T ∧ A ≤ T ∧ T < 1099511627776 ∧ Hid (Below w2.heap.size w2 wr) ∧ Hid (∀ u, A ≤ u → u < T → ¬ OkAt l ticks v u)) (fun s10 _ _ => 1099511627776 - (intOf s10).toNat)
        case atStart => exact ⟨A, rfl, Int.le_refl _, hA1, Below.refl _ _, by intro u h1 h2; omega⟩
        case round =>
          obtain ⟨T, rfl, hAT, hT, hBr, hno⟩ := hrel
          have hBw : Below w.heap.size w wr := hB2.out.trans (hBr.out.mono s2)
          have hpr := hp.out.below hBw lpb lsb
          replace hBw := Lib.hid hBw
          by_cases htk : ticks ≤ 1099511627776 - T
          · go_wp2_with fail
            refine (place_any pb sb cap whole l T wr hpr hl.out (by omega) (by omega)).mono ?_
            rintro e w3 ⟨p, rfl, hp3, hb3⟩
            have hp31 := hp3.1
            have hB3 : Below w.heap.size w w3 := hBw.out.trans (hb3.mono hBw.out.size)
            have hB3' : Below w2.heap.size w2 w3 := hBr.out.trans (hb3.mono hBr.out.size)
            replace hp3 := Lib.hid hp3; replace hb3 := Lib.hid hb3; replace hB3 := Lib.hid hB3; replace hB3' := Lib.hid hB3'; replace hpr := Lib.hid hpr
            go_wp2
            go_loopw [10, 11] (fun s10 s11 wx => ∃ k : Nat, s10 = .int .i64 T ∧ s11 = .int .i64 k ∧ k ≤ l.length ∧ p ≤ k ∧ Hid (Below w2.heap.size w2 wx) ∧ Hid (∀ j, p ≤ j → j < k → v.fits (nth l j).f = true)) (fun _ s11 _ => l.length - (intOf s11).toNat)
            case atStart => exact ⟨p, rfl, rfl, by omega, Nat.le_refl _, hB3'.out, by intro j h1 h2; omega⟩
            case round =>
              obtain ⟨k, rfl, rfl, hkl, hpk, hBx, hfit⟩ := hrel
              have hBxw : Below w.heap.size w wr := hB2.out.trans (hBx.out.mono s2)
              have hpx := hp.out.below hBxw lpb lsb
              have sx := hBxw.size
              have q4 := blk_cell hpx.head 4
              simp at q4
              by_cases hk : k < l.length
              · have hk' : (k : Int) < l.length := by omega
                have hk0 : (0 : Int) ≤ (k : Int) := by omega
                obtain ⟨c0, c1, c2, c3, c4⟩ := hpx.row.cells (i := k) hk
                by_cases hin : (nth l k).t < T + ticks
                · have gx := blk_below hBx.out g2.out (blk_lt g2.out)
                  have x0 := blk_cell gx 0; have x1 := blk_cell gx 1; have x2 := blk_cell gx 2; have x3 := blk_cell gx 3
                  simp at x0 x1 x2 x3
                  have lvb := blk_lt gx
                  have lpx := hpx.lt
                  obtain ⟨lp1, lp2⟩ := lpx
                  replace gx := Lib.hid gx; replace hpx := Lib.hid hpx; replace hBxw := Lib.hid hBxw
                  go_wp2_with fail
                  go_region_held3 (fun w' => w'.cell? ⟨w.heap.size, 0, none⟩ = some (.int .i64 v.a) ∧ w'.cell? ⟨w.heap.size, 1, none⟩ = some (.int .i64 v.b) ∧ w'.cell? ⟨w.heap.size, 2, none⟩ = some (.int .i64 v.c) ∧ w'.cell? ⟨w.heap.size, 3, none⟩ = some (.int .i64 v.d) ∧ w'.cell? ⟨pb, 4, none⟩ = some (.slice (some ⟨sb, 0, none⟩) l.length cap) ∧
                    w'.cell? ⟨sb, k * 5 + 1, none⟩ = some (.int .i64 (nth l k).f.a) ∧ w'.cell? ⟨sb, k * 5 + 2, none⟩ = some (.int .i64 (nth l k).f.b) ∧ w'.cell? ⟨sb, k * 5 + 3, none⟩ = some (.int .i64 (nth l k).f.c) ∧ w'.cell? ⟨sb, k * 5 + 4, none⟩ = some (.int .i64 (nth l k).f.d))
                    (first
                      | (go_keep; done)
                      | (go_split_ands
                         refine ⟨?_, ?_, ?_, ?_, ?_, ?_, ?_, ?_, ?_⟩
                         · (rw [below_cell hb4 (by simpa using lvb)]; assumption)
                         · (rw [below_cell hb4 (by simpa using lvb)]; assumption)
                         · (rw [below_cell hb4 (by simpa using lvb)]; assumption)
                         · (rw [below_cell hb4 (by simpa using lvb)]; assumption)
                         · (rw [below_cell hb4 (by simpa using lp1)]; assumption)
                         · (rw [below_cell hb4 (by simpa using lp2)]; assumption)
                         · (rw [below_cell hb4 (by simpa using lp2)]; assumption)
                         · (rw [below_cell hb4 (by simpa using lp2)]; assumption)
                         · (rw [below_cell hb4 (by simpa using lp2)]; assumption)))
                    (first | (go_at_call 62; refine (fits_any v (nth l k).f _).mono ?_; rintro e w4 ⟨rfl, hb4⟩))
                  have hB4 : Below w2.heap.size w2 w4 := hBx.out.trans ((undrew hb4).mono (by have := hBx.out.size; simpa using this))
                  have hB4w : Below w.heap.size w w4 := hB2.out.trans (hB4.mono s2)
                  have hp4 := hp.out.below hB4w lpb lsb
                  have r4 := blk_cell hp4.head 4
                  simp at r4
                  clear c0 c1 c2 c3 c4 x0 x1 x2 x3 q4
                  replace hb4 := Lib.hid hb4; replace hB4 := Lib.hid hB4; replace hB4w := Lib.hid hB4w
                  by_cases hf : v.fits (nth l k).f = true
                  · simp only [hf]
                    replace hf := Lib.hid hf; replace hp4 := Lib.hid hp4
                    go_wp2
                    go_roundw
                    case rel =>
                      refine ⟨k + 1, rfl, by go_num, by omega, by omega, hB4.out, ?_⟩
                      intro j h1 h2
                      by_cases e : j = k
                      · subst e; exact hf.out
                      · exact hfit.out j h1 (by omega)
                    case measure => simp [intOf]; omega
                  · have hf' : v.fits (nth l k).f = false := by simpa using hf
                    simp only [hf']
                    replace hf' := Lib.hid hf'
                    clear hf
                    by_cases hlast : k + 1 = l.length
                    · have hl1 : ((k : Int) + 1 == (l.length : Int)) = true := by rw [beq_iff_eq]; omega
                      have hrel2 : EarlyRel l after ticks v 0 false := by
                        rw [hrelD.out]
                        refine .inr ⟨rfl, rfl, fun u h1 h2 => ?_⟩
                        by_cases hu : u < T
                        · exact hno.out u h1 hu
                        · exact not_okAt hk hin hf'.out (by omega) (fun h => by omega)
                      replace hrel2 := Lib.hid hrel2; replace hp4 := Lib.hid hp4; replace hlast := Lib.hid hlast
                      go_wp2
                      go_ret2
                      exact ⟨0, false, rfl, hrel2.out, hB4w.out⟩
                    · have hl1 : ((k : Int) + 1 == (l.length : Int)) = false := by rw [beq_eq_false_iff_ne]; omega
                      have hk2 : (k : Int) + 1 < l.length := by omega
                      obtain ⟨d0, _, _, _, _⟩ := hp4.row.cells (i := k + 1) (by omega)
                      have hlt1 := hl.out.last (k + 1) (by omega)
                      have hTn : T < (nth l (k + 1)).t := by
                        by_cases e : k = p
                        · rw [e]; exact hp3.out.2.2 (p + 1) (by omega) (by omega)
                        · have := hp3.out.2.2 (k + 1) (by omega) (by omega); exact this
                      replace hp4 := Lib.hid hp4
                      go_wp2
                      go_roundw
                      case rel =>
                        refine ⟨(nth l (k + 1)).t, rfl, by omega, hlt1, hB4.out, ?_⟩
                        intro u h1 h2
                        by_cases hu : u < T
                        · exact hno.out u h1 hu
                        · exact not_okAt hk hin hf'.out (by omega) (fun _ => h2)
                      case measure => simp [intOf]; omega
                · have hin' : T + ticks ≤ (nth l k).t := by omega
                  have hrel2 : EarlyRel l after ticks v T true := by
                    rw [hrelD.out]
                    exact .inl ⟨rfl, hAT, by omega, okAt_of hl.out hp3.out hfit.out (fun _ => hin'), hno.out⟩
                  replace hrel2 := Lib.hid hrel2; replace hpx := Lib.hid hpx; replace hBxw := Lib.hid hBxw
                  go_wp2
                  go_ret2
                  exact ⟨T, true, rfl, hrel2.out, hBxw.out⟩
              · have hk' : ¬ (k : Int) < l.length := by omega
                have hrel2 : EarlyRel l after ticks v T true := by
                  rw [hrelD.out]
                  exact .inl ⟨rfl, hAT, by omega, okAt_of hl.out hp3.out hfit.out (fun h => absurd h hk), hno.out⟩
                replace hrel2 := Lib.hid hrel2; replace hpx := Lib.hid hpx; replace hBxw := Lib.hid hBxw
                go_wp2
                go_ret2
                exact ⟨T, true, rfl, hrel2.out, hBxw.out⟩
          · have hrel2 : EarlyRel l after ticks v 0 false := by
              rw [hrelD.out]
              exact .inr ⟨rfl, rfl, fun u h1 h2 => hno.out u h1 (by omega)⟩
            replace hrel2 := Lib.hid hrel2; replace hpr := Lib.hid hpr
            go_wp2
            go_ret2
            exact ⟨0, false, rfl, hrel2.out, hBw.out⟩
      · have hrel : EarlyRel l after ticks v 0 false := by unfold EarlyRel; rw [if_neg (by omega)]; exact ⟨rfl, rfl⟩
        replace hrel := Lib.hid hrel
        go_wp2
        rw [Exit.noGoto_ret]
        go_ret2
        exact ⟨0, false, rfl, hrel.out, hB2.out⟩
    · have hr' : v.right = false := by simpa using hr
      rw [hr']
      have hrel : EarlyRel l after ticks v 0 false := by unfold EarlyRel; rw [if_neg (fun h => hr h.2.1)]; exact ⟨rfl, rfl⟩
      replace hrel := Lib.hid hrel
      clear hr hr'
      go_wp2
      rw [Exit.noGoto_ret]
      go_ret2
      exact ⟨0, false, rfl, hrel.out, hB2.out⟩
  · have hrel : EarlyRel l after ticks v 0 false := by unfold EarlyRel; rw [if_neg (by omega)]; exact ⟨rfl, rfl⟩
    replace hrel := Lib.hid hrel
    go_enter Try.func26, Try.ntmps26
    go_wp2
    go_step3
    go_wp2
    rw [Exit.noGoto_ret]
    go_ret2
    exact ⟨0, false, rfl, hrel.out, (Below.refl _ _).alloc (Nat.le_refl _) _⟩
end Go.Proofs.Ytpjajiambbobhaa
