/- corveelaw12.PlanMay answers true. -/
import Derived.Test.YtpjajiambbobhaaPmx
namespace Go.Proofs.Ytpjajiambbobhaa
open Go.RowKit

set_option maxRecDepth 100000 in
set_option maxHeartbeats 12800000 in
theorem pmay_any (x : Scene) (so : Option Addr) (sn sc : Nat) (sl : List Slot) (w : World) (hok : x.ok w) (hsl : SlotsAt w so sn sl) : Calls Try.prog 17 #[x.val, .slice so sn sc] w fun e w' => e = .returned (.bool true) ∧ Below w.heap.size w w' := by
  have hslen := hsl.len
  have hsmx := hsl.max
  replace hsl := Lib.hid hsl; replace hslen := Lib.hid hslen
  have hS0 := SW.new hok
  have hN2 := hok.asks.len
  replace hok := Lib.hid hok; replace hN2 := Lib.hid hN2; replace hS0 := Lib.hid hS0
  go_enter Try.func17, Try.ntmps17
  go_wp2_with fail
  refine (pawake_any _).mono ?_
  rintro e w1 ⟨rfl, hb1⟩
  have hS1 := hS0.out.below hb1
  obtain ⟨c0, c1, c2, c3, c4⟩ := scene_cells hS1.box
  have lx := blk_lt hS1.box
  have hfew := few_any x w1 hS1.ok
  replace hS1 := Lib.hid hS1; replace hb1 := Lib.hid hb1; replace hfew := Lib.hid hfew
  go_wp2_with fail
  refine hfew.out.mono ?_
  rintro e w2 ⟨bf, rfl, hbf, hb2⟩
  have hS2 := hS1.out.below hb2
  clear c0 c1 c2 c3 c4 lx
  obtain ⟨c0, c1, c2, c3, c4⟩ := scene_cells hS2.box
  have lx := blk_lt hS2.box
  have hlow2 := hS2.low
  replace hS2 := Lib.hid hS2; replace hb2 := Lib.hid hb2; replace hlow2 := Lib.hid hlow2
  cases bf with
  | false =>
    clear hbf
    go_wp2
    go_ret
    exact ⟨rfl, hlow2.out⟩
  | true =>
  have hfw := hbf rfl
  clear hbf
  replace hfw := Lib.hid hfw
  by_cases q0 : 12 < sn
  · have d0 : decide (12 < (sn : Int)) = true := by simp; omega
    replace q0 := Lib.hid q0
    go_wp2
    go_ret
    exact ⟨rfl, hlow2.out⟩
  have d0 : decide (12 < (sn : Int)) = false := by simp; omega
  have hS2' := hS2
  replace q0 := Lib.hid q0
  clear c0 c1 c2 c3 c4 lx
  go_wp2
  go_loopw [7] (fun i wr => ∃ k : Nat, i = .int .i64 k ∧ k ≤ sn ∧ Hid (SW w x wr)) (fun i _ => sn - (intOf i).toNat)
  case atStart => exact ⟨0, rfl, Nat.zero_le _, hS2.out⟩
  case round =>
    obtain ⟨k, rfl, hk, hS⟩ := hrel
    have hlow := hS.out.low
    by_cases hc : k < sn
    · have hc1 : (k : Int) < sn := by omega
      have hk0 : (0 : Int) ≤ (k : Int) := by omega
      obtain ⟨s, hsx⟩ := hsl.out.get hc
      obtain ⟨b1, off, rfl, hb, s0, hso⟩ := hsl.out.cell k s hsx
      have t2 := (below_cell hlow hb).trans (s0 2 (by omega))
      simp at t2
      clear s0
      have hgm := hso.gang.max
      replace hsx := Lib.hid hsx; replace hso := Lib.hid hso; replace hlow := Lib.hid hlow
      by_cases q20 : 20 < s.gn
      · have d20 : decide (20 < (s.gn : Int)) = true := by simp; omega
        replace q20 := Lib.hid q20
        go_wp2
        go_ret
        exact ⟨rfl, hlow.out⟩
      · have d20 : decide (20 < (s.gn : Int)) = false := by simp; omega
        replace q20 := Lib.hid q20
        go_wp2
        go_roundw
        case rel => exact ⟨k + 1, by go_num, by omega, hS.out⟩
        case measure => simp [intOf]; omega
    · have hc1 : ¬ (k : Int) < sn := by omega
      obtain ⟨c0, c1, c2, c3, c4⟩ := scene_cells hS.out.box
      have lx := blk_lt hS.out.box
      have hST : Hid (∀ w' : World, Below wr.heap.size wr w' → w'.cell? ⟨w.heap.size, 0, none⟩ = some (.slice x.vo x.vn x.vc) ∧ w'.cell? ⟨w.heap.size, 1, none⟩ = some (.slice x.uo x.un x.uc) ∧ w'.cell? ⟨w.heap.size, 2, none⟩ = some (.int .i64 x.now) ∧ w'.cell? ⟨w.heap.size, 3, none⟩ = some (.slice x.ho x.hn x.hc) ∧ w'.cell? ⟨w.heap.size, 4, none⟩ = some (.slice x.ao x.an x.ac)) := fun w' h => ⟨(below_cell h lx).trans c0, (below_cell h lx).trans c1, (below_cell h lx).trans c2, (below_cell h lx).trans c3, (below_cell h lx).trans c4⟩
      have hmay := fun W' (h : Below wr.heap.size wr W') =>
        may_any x.vo x.uo x.ho x.ao so x.vn x.vc x.un x.uc x.hn x.hc x.an x.ac sn sc x.vs x.bs x.now x.hs x.asks sl W' ((hS.out.below h).ok.vs) ((hS.out.below h).ok.up) ((hS.out.below h).ok.holds) ((hS.out.below h).ok.asks) (hsl.out.below (hS.out.below h).low (fun _ o => o.below (hS.out.below h).low))
      have hrmay := fun b (hR : MayRel x.vs x.now x.bs x.hs x.asks sl b) W' (h : Below wr.heap.size wr W') =>
        rmay_any x.vo x.uo x.ho x.ao so x.vn x.vc x.un x.uc x.hn x.hc x.an x.ac sn sc x.vs x.bs x.now x.hs x.asks sl b W' ((hS.out.below h).ok.vs) ((hS.out.below h).ok.up) ((hS.out.below h).ok.holds) ((hS.out.below h).ok.asks) (hsl.out.below (hS.out.below h).low (fun _ o => o.below (hS.out.below h).low)) hR hfw.out.hn (by have := hfw.out.an; omega) (by have := hfw.out.un; omega)
      have hcur : Below wr.heap.size wr wr.drew := (Below.refl _ _).drew
      replace hlow := Lib.hid hlow; replace hmay := Lib.hid hmay; replace hrmay := Lib.hid hrmay; replace hcur := Lib.hid hcur
      go_upto_region 12 with fail
      clear c0 c1 c2 c3 c4
      go_region_held3 (fun w' => w'.cell? ⟨w.heap.size, 0, none⟩ = some (.slice x.vo x.vn x.vc) ∧ w'.cell? ⟨w.heap.size, 1, none⟩ = some (.slice x.uo x.un x.uc) ∧ w'.cell? ⟨w.heap.size, 2, none⟩ = some (.int .i64 x.now) ∧ w'.cell? ⟨w.heap.size, 3, none⟩ = some (.slice x.ho x.hn x.hc) ∧ w'.cell? ⟨w.heap.size, 4, none⟩ = some (.slice x.ao x.an x.ac))
        (first
          | with_reducible exact hST.out _ hcur.out)
        (first
          | (go_at_call 56
             refine (hmay.out _ hcur.out).mono ?_
             rintro e w4 ⟨b, rfl, hR, hb4⟩
             replace hcur := Lib.hid (hcur.out.trans (hb4.mono hcur.out.size))
             replace hR := Lib.hid hR; replace hb4 := Lib.hid hb4)
          | (go_at_call 57
             refine (hrmay.out _ hR.out _ hcur.out).mono ?_
             rintro e w5 ⟨rfl, hb5⟩
             replace hcur := Lib.hid (hcur.out.trans (hb5.mono hcur.out.size))
             have hbb : (b == b) = true := by simp
             replace hb5 := Lib.hid hb5))
      all_goals
        go_wp2_with fail
        go_ret
        refine ⟨?_, hlow.out.trans (hcur.out.mono hlow.out.size)⟩
        simp
end Go.Proofs.Ytpjajiambbobhaa
