/- corveelaw12.PlanFits answers true: a plan may be. -/
import Derived.Test.YtpjajiambbobhaaPmx
namespace Go.Proofs.Ytpjajiambbobhaa
open Go.RowKit

theorem endT_span {fr ticks : Int} {v : V4} (h : spanL fr (endT fr ticks) v = true) : endT fr ticks = fr + ticks := by
  have h3 := (span_parts h).2.2.1
  unfold endT at h3 ⊢
  split
  · next c => rw [if_pos c] at h3; omega
  · rfl
theorem endT_of {fr ticks : Int} (h : fr + ticks ≤ 1099511627776) : endT fr ticks = fr + ticks := by
  unfold endT
  rw [if_neg (by omega)]
theorem may_held {vs : List V4} {now : Int} {bs : List Bool} {l : List (Ask × Slot)} : ∀ {U : Used} {p q : List Nd}, Chain (MayOne now bs) l p q → Held vs U p → Held vs (addU U (slotsU l)) q := by
  induction l with
  | nil => intro U p q h k; cases h; exact k.eqU (addU_no _).symm
  | cons x xs ih =>
    intro U p q h k
    obtain ⟨m, h1, h2⟩ := h
    have k2 : Held vs (addU U (slotU x)) m := by
      rcases h1.2 with ⟨e1, _, e⟩ | ⟨e1, _, e⟩
      · subst e
        refine k.eqU ?_
        unfold slotU
        rw [if_neg (by omega), addU_no]
      · obtain ⟨h3, _, h4⟩ := held_took k e
        refine h3.eqU ?_
        unfold slotU
        rw [if_pos e1, endT_span h4]
    refine (ih h2 k2).eqU ?_
    rw [addU_assoc]; rfl
theorem fits_err {vs : List V4} {now : Int} {bs : List Bool} {hs : List Hold} {asks : List Ask} {slots : List Slot} {r : Int} {b : Bool} (hr : r ≠ 0) (hL : LayRel vs bs.length now hs r []) (hR : MayRel vs now bs hs asks slots b) : b = false := by
  rcases hR with ⟨e, _⟩ | ⟨ps, hL2, _⟩
  · exact e
  · exact absurd (lay_det hL hL2) hr
theorem fits_law {vs : List V4} {now : Int} {bs : List Bool} {hs : List Hold} {asks : List Ask} {slots : List Slot} {b : Bool} (hP : PassRel vs now bs hs asks slots) (hgl : ∀ s, s ∈ slots → s.gzs.length = s.gn) (hR : MayRel vs now bs hs asks slots b) : b = true := by
  have hok := pass_ok hP
  obtain ⟨ps0, _, _, _, _, hL0, _⟩ := hP.go
  have hlo := hok.lay.lo
  rcases hR with ⟨_, r, hr, hL⟩ | ⟨ps, hL, ⟨_, hne⟩ | ⟨_, ⟨e, _⟩ | ⟨_, k, x, m, hx, hc, hB⟩⟩⟩
  · exact absurd (lay_det hL hL0) hr
  · exact absurd hok.len hne
  · exact e
  · exfalso
    obtain ⟨_, k0, hg⟩ := lay_held hL
    have k1 := may_held hc k0
    have hmem : x ∈ asks.zip slots := List.mem_of_getElem? hx
    have hso := hok.slot x hmem
    have hgn := hgl x.2 (List.of_mem_zip (a := x.1) (b := x.2) hmem).2
    rcases hB with h | ⟨_, h1, h2⟩ | ⟨_, h1, h2⟩ | ⟨_, h1, _, r, q, hr, hT⟩
    · exact h hso.1
    · rcases hso.2 with ⟨e1, e2⟩ | ⟨_, e, _⟩
      · exact h2 ⟨e1, by rw [← hgn, e2]; rfl⟩
      · omega
    · rcases hso.2 with ⟨e1, _⟩ | ⟨e1, e2, e3, e4, _⟩
      · omega
      · exact h2 ⟨e1, e2, by omega, e4⟩
    · rcases hso.2 with ⟨e1, _⟩ | ⟨e1, e2, e3, e4, e5, e6⟩
      · omega
      · have e7 := (span_parts e6).2.2.1
        rw [endT_of e7] at hT
        refine hr (took_yes k1 e5 e6 (fun i hi u u0 u1 => ?_) hT.1)
        have hle := hok.le i hi u u0 u1
        have hd : (asks.zip slots).drop k = x :: (asks.zip slots).drop (k + 1) := by
          rw [List.drop_eq_getElem_cons (List.getElem?_eq_some_iff.1 hx).1, (List.getElem?_eq_some_iff.1 hx).2]
        have hnn := zero_leq.1 (nn_slots (l := (asks.zip slots).drop (k + 1)) (fun y hy => hok.slot y (List.mem_of_mem_drop hy)) i u)
        have hsu : slotsU (x :: (asks.zip slots).drop (k + 1)) = addU (slotU x) (slotsU ((asks.zip slots).drop (k + 1))) := rfl
        have hsx : slotU x = itm x.2.gzs x.2.start (x.2.start + x.1.ticks) x.1.v := by unfold slotU; rw [if_pos h1]
        rw [slotsU_take (asks.zip slots) k, hd, hsu, hsx] at hle
        simp only [addU, add4, V4.leq] at hle ⊢
        omega

set_option maxRecDepth 100000 in
set_option maxHeartbeats 12800000 in
theorem pfits_any (x : Scene) (w : World) (hok : x.ok w) : Calls Try.prog 18 #[x.val] w fun e w' => e = .returned (.bool true) ∧ Below w.heap.size w w' := by
  have hS0 := SW.new hok
  have hN2 := hok.asks.len
  replace hok := Lib.hid hok; replace hN2 := Lib.hid hN2; replace hS0 := Lib.hid hS0
  go_enter Try.func18, Try.ntmps18
  go_wp2_with fail
  refine (pawake_any _).mono ?_
  rintro e w1 ⟨rfl, hb1⟩
  have hS1 := hS0.out.below hb1
  obtain ⟨c0, c1, c2, c3, c4⟩ := scene_cells hS1.box
  have lx := blk_lt hS1.box
  have hfew := few_any x w1 hS1.ok
  replace hS1 := Lib.hid hS1; replace hb1 := Lib.hid hb1; replace hfew := Lib.hid hfew
  go_wp2_with fail
  refine hfew.out.mono ?_
  rintro e w2 ⟨bf, rfl, hbf, hb2⟩
  have hS2 := hS1.out.below hb2
  clear c0 c1 c2 c3 c4 lx
  obtain ⟨c0, c1, c2, c3, c4⟩ := scene_cells hS2.box
  have lx := blk_lt hS2.box
  have hlow2 := hS2.low
  replace hS2 := Lib.hid hS2; replace hb2 := Lib.hid hb2; replace hlow2 := Lib.hid hlow2
  cases bf with
  | false =>
    clear hbf
    go_wp2
    go_ret
    exact ⟨rfl, hlow2.out⟩
  | true =>
  have hfw := hbf rfl
  clear hbf
  have han := hfw.an
  have hpass := passu_any x.vo x.uo x.ho x.ao x.vn x.vc x.un x.uc x.hn x.hc x.an x.ac x.vs x.bs x.now x.hs x.asks w2 hS2.out.ok.vs hS2.out.ok.up hS2.out.ok.holds hS2.out.ok.asks (by omega)
  replace hfw := Lib.hid hfw; replace hpass := Lib.hid hpass
  go_wp2_with fail
  refine hpass.out.mono ?_
  rintro e w3 ⟨so, n, sc, slots, r, rfl, hsl, hrel, hb3, _, _, _⟩
  have hS3 := hS2.out.below hb3
  clear c0 c1 c2 c3 c4 lx
  obtain ⟨c0, c1, c2, c3, c4⟩ := scene_cells hS3.box
  have lx := blk_lt hS3.box
  rcases hrel with ⟨hr, hn, hL⟩ | ⟨hr, hn, hP⟩
  · subst hn
    have dr : (r != 0) = true := by simpa using hr
    have hmay := may_any x.vo x.uo x.ho x.ao none x.vn x.vc x.un x.uc x.hn x.hc x.an x.ac 0 0 x.vs x.bs x.now x.hs x.asks [] w3 hS3.ok.vs hS3.ok.up hS3.ok.holds hS3.ok.asks ⟨rfl, by omega, fun i y h => by simp at h⟩
    replace hS3 := Lib.hid hS3; replace hb3 := Lib.hid hb3; replace hr := Lib.hid hr; replace hL := Lib.hid hL; replace hsl := Lib.hid hsl; replace hmay := Lib.hid hmay
    go_wp2_with fail
    refine hmay.out.mono ?_
    rintro e w4 ⟨b, rfl, hR, hb4⟩
    have hbf : b = false := fits_err hr.out hL.out hR
    subst hbf
    have hlow4 := hS3.out.low.trans (hb4.mono hS3.out.low.size)
    replace hR := Lib.hid hR; replace hb4 := Lib.hid hb4; replace hlow4 := Lib.hid hlow4
    go_wp2
    go_ret
    exact ⟨rfl, hlow4.out⟩
  · subst hr
    have hsml := hsl.max
    have hgl : ∀ s, s ∈ slots → s.gzs.length = s.gn := fun s hs => by
      obtain ⟨i, hi, e⟩ := List.getElem_of_mem hs
      obtain ⟨_, _, _, _, _, o⟩ := hsl.cell i s (by rw [List.getElem?_eq_getElem hi, e])
      exact o.gang.len
    have hmay := may_any x.vo x.uo x.ho x.ao so x.vn x.vc x.un x.uc x.hn x.hc x.an x.ac n sc x.vs x.bs x.now x.hs x.asks slots w3 hS3.ok.vs hS3.ok.up hS3.ok.holds hS3.ok.asks hsl
    replace hS3 := Lib.hid hS3; replace hb3 := Lib.hid hb3; replace hP := Lib.hid hP; replace hsl := Lib.hid hsl; replace hmay := Lib.hid hmay; replace hgl := Lib.hid hgl; replace hn := Lib.hid hn
    go_wp2_with fail
    refine hmay.out.mono ?_
    rintro e w4 ⟨b, rfl, hR, hb4⟩
    have hbf : b = true := fits_law hP.out hgl.out hR
    subst hbf
    have hS4 := hS3.out.below hb4
    have hsl4 := hsl.out.below hb4 (fun _ o => o.below hb4)
    have hrm := rmay_any x.vo x.uo x.ho x.ao so x.vn x.vc x.un x.uc x.hn x.hc x.an x.ac n sc x.vs x.bs x.now x.hs x.asks slots true w4 hS4.ok.vs hS4.ok.up hS4.ok.holds hS4.ok.asks hsl4 hR hfw.out.hn (by have := hfw.out.an; omega) (by have := hfw.out.un; omega)
    clear c0 c1 c2 c3 c4 lx
    obtain ⟨c0, c1, c2, c3, c4⟩ := scene_cells hS4.box
    have lx := blk_lt hS4.box
    replace hR := Lib.hid hR; replace hb4 := Lib.hid hb4; replace hS4 := Lib.hid hS4; replace hsl4 := Lib.hid hsl4; replace hrm := Lib.hid hrm
    go_wp2_with fail
    refine hrm.out.mono ?_
    rintro e w5 ⟨rfl, hb5⟩
    have hlow5 := hS4.out.low.trans (hb5.mono hS4.out.low.size)
    replace hb5 := Lib.hid hb5; replace hlow5 := Lib.hid hlow5
    go_wp2
    go_ret
    exact ⟨rfl, hlow5.out⟩
end Go.Proofs.Ytpjajiambbobhaa
