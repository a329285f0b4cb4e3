/- corveelaw12.PlanEarly answers true. -/
import Derived.Test.YtpjajiambbobhaaPmd
namespace Go.Proofs.Ytpjajiambbobhaa
open Go.RowKit

/-- what stands while a pool of one's own is taken from -/
structure GW (w0 : World) (gb gs cap : Nat) (po : Option Addr) (q : List Nd) (wr : World) : Prop where
  low : Below w0.heap.size w0 wr
  pool : Pool wr gb gs po cap q
  mine : ∀ b, Mine q b → w0.heap.size ≤ b
theorem GW.below {w0 : World} {gb gs cap : Nat} {po : Option Addr} {q : List Nd} {wr w' : World} (h : GW w0 gb gs cap po q wr) (hb : Below wr.heap.size wr w') : GW w0 gb gs cap po q w' :=
  ⟨h.low.trans (hb.mono h.low.size), h.pool.below hb, h.mine⟩
theorem GW.mod {w0 : World} {gb gs cap : Nat} {po : Option Addr} {q q' : List Nd} {wr w' : World} (h : GW w0 gb gs cap po q wr) (hp : Pool w' gb gs po cap q') (hk : Kin wr q q') (hm : Mod (Mine q) wr w') : GW w0 gb gs cap po q' w' :=
  ⟨below_mod h.low hm h.mine h.low.size, hp, fun b hb => by
    rcases hk.mine hb with c | c
    · exact h.mine b c
    · exact Nat.le_trans h.low.size c⟩
def GwPost (R : Int → List Nd → Prop) (w0 : World) (gb gs cap : Nat) (po : Option Addr) (q : List Nd) (w : World) (e : Ending) (w' : World) : Prop :=
  ∃ r q', e = .returned (.int .i64 r) ∧ R r q' ∧ Like q q' ∧ GW w0 gb gs cap po q' w' ∧ Mod (Mine q) w w'
theorem gw_take {w0 : World} {gb gs cap : Nat} {po : Option Addr} {q : List Nd} {wr : World} (h : GW w0 gb gs cap po q wr) {ao : Option Addr} {m c : Nat} {zs : List Int} (hz : IntsAt w0 ao m zs) (hmc : m ≤ c) (fr tt : Int) (v : V4) (W' : World) (hb : Below wr.heap.size wr W') :
    Calls Try.prog 35 #[.pointer (some ⟨gb, 0, none⟩), .slice ao m c, .int .i64 fr, .int .i64 tt, v.val] W' (GwPost (TookG q zs fr tt v) w0 gb gs cap po q W') := by
  have h' := h.below hb
  refine (gtake_any gb gs cap po q ao m c zs fr tt v W' h'.pool (hz.below h'.low (Nat.le_refl _)) (off_of hz (Nat.le_refl _) h'.mine) hmc).mono ?_
  rintro e w8 ⟨r, q', rfl, hT, hp, hk, hm⟩
  exact ⟨r, q', rfl, hT, like_of hk hp, h'.mod hp hk hm, hm⟩
theorem gw_give {w0 : World} {gb gs cap : Nat} {po : Option Addr} {q : List Nd} {wr : World} (h : GW w0 gb gs cap po q wr) {ao : Option Addr} {m c : Nat} {zs : List Int} (hz : IntsAt w0 ao m zs) (hmc : m ≤ c) (fr tt : Int) (v : V4) (W' : World) (hb : Below wr.heap.size wr W') :
    Calls Try.prog 40 #[.pointer (some ⟨gb, 0, none⟩), .slice ao m c, .int .i64 fr, .int .i64 tt, v.val] W' (GwPost (GaveG q zs fr tt v) w0 gb gs cap po q W') := by
  have h' := h.below hb
  refine (ggive_any gb gs cap po q ao m c zs fr tt v W' h'.pool (hz.below h'.low (Nat.le_refl _)) (off_of hz (Nat.le_refl _) h'.mine) hmc).mono ?_
  rintro e w8 ⟨r, q', rfl, hT, hp, hk, hm⟩
  exact ⟨r, q', rfl, hT, like_of hk hp, h'.mod hp hk hm, hm⟩
theorem zip_get {α β : Type} {l : List α} {m : List β} {k : Nat} {a : α} {b : β} (h : l[k]? = some a) (h' : m[k]? = some b) : (l.zip m)[k]? = some (a, b) := by
  rw [List.getElem?_zip_eq_some]; exact ⟨h, h'⟩

set_option maxRecDepth 100000 in
set_option maxHeartbeats 12800000 in
theorem pearly_any (x : Scene) (w : World) (hok : x.ok w) : Calls Try.prog 15 #[x.val] w fun e w' => e = .returned (.bool true) ∧ Below w.heap.size w w' := by
  have hS0 := SW.new hok
  have hN2 := hok.asks.len
  replace hok := Lib.hid hok; replace hN2 := Lib.hid hN2; replace hS0 := Lib.hid hS0
  go_enter Try.func15, Try.ntmps15
  go_wp2_with fail
  refine (pawake_any _).mono ?_
  rintro e w1 ⟨rfl, hb1⟩
  have hS1 := hS0.out.below hb1
  obtain ⟨c0, c1, c2, c3, c4⟩ := scene_cells hS1.box
  have lx := blk_lt hS1.box
  have hfew := few_any x w1 hS1.ok
  replace hS1 := Lib.hid hS1; replace hb1 := Lib.hid hb1; replace hfew := Lib.hid hfew
  go_wp2_with fail
  refine hfew.out.mono ?_
  rintro e w2 ⟨bf, rfl, hbf, hb2⟩
  have hS2 := hS1.out.below hb2
  clear c0 c1 c2 c3 c4 lx
  obtain ⟨c0, c1, c2, c3, c4⟩ := scene_cells hS2.box
  have lx := blk_lt hS2.box
  have hlow2 := hS2.low
  replace hS2 := Lib.hid hS2; replace hb2 := Lib.hid hb2; replace hlow2 := Lib.hid hlow2
  cases bf with
  | false =>
    clear hbf
    go_wp2
    go_ret
    exact ⟨rfl, hlow2.out⟩
  | true =>
  have hfw := hbf rfl
  clear hbf
  have han := hfw.an
  replace hfw := Lib.hid hfw
  by_cases q0 : x.an = 0
  · have d0 : ((x.an : Int) == 0) = true := by simp [q0]
    replace q0 := Lib.hid q0
    go_wp2
    go_ret
    exact ⟨rfl, hlow2.out⟩
  have d0 : ((x.an : Int) == 0) = false := by simp [q0]
  have hpass := pass_any x.vo x.uo x.ho x.ao x.vn x.vc x.un x.uc x.hn x.hc x.an x.ac x.vs x.bs x.now x.hs x.asks w2 hS2.out.ok.vs hS2.out.ok.up hS2.out.ok.holds hS2.out.ok.asks (by omega)
  replace hpass := Lib.hid hpass; replace q0 := Lib.hid q0
  go_wp2_with fail
  refine hpass.out.mono ?_
  rintro e w3 ⟨hb3, ⟨r, hr, rfl, hl⟩ | ⟨so, sc, slots, he, hp, hs, hsc, hfr, hfr2⟩⟩
  · have d1 : (r != 0) = true := by simpa using hr
    have hlow3 := hlow2.out.trans (hb3.mono hlow2.out.size)
    replace hlow3 := Lib.hid hlow3; replace hr := Lib.hid hr; replace hl := Lib.hid hl; replace hb3 := Lib.hid hb3
    go_wp2
    go_ret
    exact ⟨rfl, hlow3.out⟩
  rw [hN2.out] at he hs hsc
  subst he
  have hpo := pass_ok hp
  have hS3 := hS2.out.below hb3
  have hlow3 := hS3.low
  have hnew := newg_any x.vo x.vn x.vc x.vs w3 hS3.ok.vs
  clear c0 c1 c2 c3 c4 lx
  obtain ⟨c0, c1, c2, c3, c4⟩ := scene_cells hS3.box
  have lx := blk_lt hS3.box
  have hnow0 := hpo.lay.lo
  have hnow1 := hpo.lay.hi
  replace hb3 := Lib.hid hb3; replace hp := Lib.hid hp; replace hs := Lib.hid hs; replace hsc := Lib.hid hsc; replace hfr := Lib.hid hfr; replace hfr2 := Lib.hid hfr2; replace hpo := Lib.hid hpo; replace hS3 := Lib.hid hS3; replace hlow3 := Lib.hid hlow3; replace hnew := Lib.hid hnew
  go_wp2_with fail
  refine hnew.out.mono ?_
  rintro e w4 (⟨hno, _, _⟩ | ⟨hn16, hrt, gb, gs, po, cap, ps, rfl, hgb, hp1, hlen1, hst1, hmine1, hb4⟩)
  · refine absurd ⟨?_, fun i hi => ?_⟩ hno
    · have := hpo.out.lay.few; have := hS3.out.ok.vs.len; omega
    · exact hpo.out.lay.right i (by have := hS3.out.ok.vs.len; omega)
  have hfresh : Fresh x.vs ps := ⟨hlen1.trans hS3.out.ok.vs.len.symm, fun i hi => hst1 i (by rw [← hS3.out.ok.vs.len]; exact hi), hp1.inv⟩
  have hG0 : GW w3 gb gs cap po ps w4 := ⟨hb4, hp1, hmine1⟩
  have hH0 := held_fresh hfresh
  have hslen : x.asks.length = slots.length := hpo.out.len.symm
  have dl : ((x.an : Int) != (x.an : Int)) = false := by simp
  have b0 := (below_cell hb4 lx).trans c0
  have b1 := (below_cell hb4 lx).trans c1
  have b2 := (below_cell hb4 lx).trans c2
  have b3 := (below_cell hb4 lx).trans c3
  have b4 := (below_cell hb4 lx).trans c4
  have hn16' := Lib.hid hn16
  clear hgb hn16
  replace hrt := Lib.hid hrt; replace hp1 := Lib.hid hp1; replace hlen1 := Lib.hid hlen1; replace hst1 := Lib.hid hst1; replace hmine1 := Lib.hid hmine1; replace hb4 := Lib.hid hb4; replace hfresh := Lib.hid hfresh; replace hG0 := Lib.hid hG0; replace hH0 := Lib.hid hH0; replace hslen := Lib.hid hslen
  go_wp2
  clear b0 b1 b2 b3 b4
  have ew : IntKind.i64.wrap (x.now + 1) = x.now + 1 := IntWalk.i64_in _ (by omega)
  have hhn := hS3.out.ok.holds.len
  have hhm := hS3.out.ok.holds.max
  replace hhn := Lib.hid hhn
  go_loopw [8] (fun i wr => ∃ (k : Nat) (q : List Nd), i = .int .i64 k ∧ k ≤ x.hn ∧ Hid (GW w3 gb gs cap po q wr) ∧ Hid (Held x.vs (holdsU x.now (x.hs.take k)) q)) (fun i _ => x.hn - (intOf i).toNat)
  case atStart => exact ⟨0, ps, rfl, Nat.zero_le _, hG0.out, hH0.out⟩
  case round =>
    obtain ⟨k, q, rfl, hk, hG, hH⟩ := hrel
    have b2 := (below_cell hG.out.low lx).trans c2
    have b3 := (below_cell hG.out.low lx).trans c3
    by_cases hc : k < x.hn
    · have hc1 : (k : Int) < x.hn := by omega
      have hk0 : (0 : Int) ≤ (k : Int) := by omega
      obtain ⟨h, hx⟩ := hS3.out.ok.holds.get hc
      obtain ⟨b, off, hbo, hb, a0, hxo⟩ := hS3.out.ok.holds.cell k h hx
      rw [hbo] at b3 c3
      have a1 := a0 0 (by omega); have a2 := a0 1 (by omega); have a3 := a0 2 (by omega); have a4 := a0 3 (by omega); have a5 := a0 4 (by omega); have a6 := a0 5 (by omega)
      simp at a1 a2 a3 a4 a5 a6
      clear a0
      obtain ⟨T, hT⟩ : ∃ T, T = holdEnd x.now h := ⟨_, rfl⟩
      have hmx : (if h.till < x.now + 1 then x.now + 1 else h.till) = T := by rw [hT]; unfold holdEnd; omega
      have htk := gw_take hG.out hxo.gang hxo.gle x.now T h.v wr.drew (Below.refl _ _).drew
      have hcur : Below w3.heap.size w3 wr.drew := hG.out.low.drew
      have hS : Hid (∀ w' : World, Below w3.heap.size w3 w' → w'.cell? ⟨w.heap.size, 2, none⟩ = some (.int .i64 x.now) ∧ w'.cell? ⟨w.heap.size, 3, none⟩ = some (.slice (some ⟨b, off, none⟩) x.hn x.hc) ∧ w'.cell? ⟨b, off + k * 6, none⟩ = some (.slice h.go h.gn h.gc) ∧ w'.cell? ⟨b, off + k * 6 + 1, none⟩ = some (.int .i64 h.v.a) ∧ w'.cell? ⟨b, off + k * 6 + 2, none⟩ = some (.int .i64 h.v.b) ∧ w'.cell? ⟨b, off + k * 6 + 3, none⟩ = some (.int .i64 h.v.c) ∧ w'.cell? ⟨b, off + k * 6 + 4, none⟩ = some (.int .i64 h.v.d) ∧ w'.cell? ⟨b, off + k * 6 + 5, none⟩ = some (.int .i64 h.till)) := fun w' hb' =>
        ⟨(below_cell hb' lx).trans c2, (below_cell hb' lx).trans c3, (below_cell hb' hb).trans a1, (below_cell hb' hb).trans a2, (below_cell hb' hb).trans a3, (below_cell hb' hb).trans a4, (below_cell hb' hb).trans a5, (below_cell hb' hb).trans a6⟩
      replace hx := Lib.hid hx; replace hbo := Lib.hid hbo; replace hxo := Lib.hid hxo; replace hT := Lib.hid hT; replace htk := Lib.hid htk; replace hcur := Lib.hid hcur
      go_wp2_with fail
      clear b2 b3 c0 c1 c2 c3 c4 a1 a2 a3 a4 a5 a6
      go_region_held3 (fun w' => w'.cell? ⟨w.heap.size, 2, none⟩ = some (.int .i64 x.now) ∧ w'.cell? ⟨w.heap.size, 3, none⟩ = some (.slice (some ⟨b, off, none⟩) x.hn x.hc) ∧ w'.cell? ⟨b, off + k * 6, none⟩ = some (.slice h.go h.gn h.gc) ∧ w'.cell? ⟨b, off + k * 6 + 1, none⟩ = some (.int .i64 h.v.a) ∧ w'.cell? ⟨b, off + k * 6 + 2, none⟩ = some (.int .i64 h.v.b) ∧ w'.cell? ⟨b, off + k * 6 + 3, none⟩ = some (.int .i64 h.v.c) ∧ w'.cell? ⟨b, off + k * 6 + 4, none⟩ = some (.int .i64 h.v.d) ∧ w'.cell? ⟨b, off + k * 6 + 5, none⟩ = some (.int .i64 h.till))
        (first
          | with_reducible exact hS.out _ hcur.out)
        (first
          | (go_at_call 35
             refine htk.out.mono ?_
             rintro e w8 ⟨r8, q8, rfl, hTk, hl8, hG8, hm8⟩
             replace hcur := Lib.hid hG8.low
             replace hTk := Lib.hid hTk; replace hl8 := Lib.hid hl8; replace hG8 := Lib.hid hG8; replace hm8 := Lib.hid hm8))
      have hH2 := (hold_step hx.out hpo.out.holds (fun i hi u a b => leq_addU (nn_slots hpo.out.slot) (hpo.out.le i hi u a b)) hH.out (by rw [← hT.out]; exact hTk.out) hl8.out).2
      replace hH2 := Lib.hid hH2
      go_wp2
      go_roundw
      case rel => exact ⟨k + 1, q8, by go_num, by omega, hG8.out, hH2.out⟩
      case measure => simp [intOf]; omega
    · have hc1 : ¬ (k : Int) < x.hn := by omega
      have hH1 : Held x.vs (addU (holdsU x.now x.hs) (slotsU ((x.asks.zip slots).take 0))) q := hH.out.eqU (by rw [List.take_of_length_le (by rw [hhn.out]; omega)]; exact (addU_no _).symm)
      replace hH1 := Lib.hid hH1
      go_wp2
      have han9 := hN2.out
      go_loopw [9] (fun i wr => ∃ (k : Nat) (q : List Nd), i = .int .i64 k ∧ k ≤ x.an ∧ Hid (GW w3 gb gs cap po q wr) ∧ Hid (Held x.vs (addU (holdsU x.now x.hs) (slotsU ((x.asks.zip slots).take k))) q)) (fun i _ => x.an - (intOf i).toNat)
      case atStart => exact ⟨0, q, rfl, Nat.zero_le _, hG.out, hH1.out⟩
      case round =>
        clear b2 b3 hk
        obtain ⟨k, q, rfl, hk, hG, hH⟩ := hrel
        by_cases hc : k < x.an
        · have hc1 : (k : Int) < x.an := by omega
          have hk0 : (0 : Int) ≤ (k : Int) := by omega
          obtain ⟨s, hsx⟩ := hs.out.get hc
          obtain ⟨b, off, rfl, hb, a0, hso⟩ := hs.out.cell k s hsx
          have s1 := a0 1 (by omega); have s2 := a0 2 (by omega)
          simp at s1 s2
          clear a0
          obtain ⟨a, hax⟩ := hS3.out.ok.asks.get hc
          obtain ⟨b', off', hbo, hb', a0, hao⟩ := hS3.out.ok.asks.cell k a hax
          have a3 := a0 3 (by omega); have a4 := a0 4 (by omega); have a5 := a0 5 (by omega); have a6 := a0 6 (by omega); have a7 := a0 7 (by omega)
          simp at a3 a4 a5 a6 a7
          clear a0
          have hz := zip_get hax hsx
          have hsk := hpo.out.slot _ (List.mem_of_getElem? hz)
          have t1 := (below_cell hG.out.low hb).trans s1
          replace hsx := Lib.hid hsx; replace hax := Lib.hid hax; replace hz := Lib.hid hz; replace hsk := Lib.hid hsk; replace hso := Lib.hid hso; replace hao := Lib.hid hao
          by_cases q5 : 0 ≤ s.start
          · have d5 : decide (0 ≤ s.start) = true := by simpa using q5
            have hsp : spanL s.start (s.start + a.ticks) a.v = true := by
              rcases hsk.out.2 with ⟨c, _⟩ | ⟨_, _, _, _, _, c⟩
              · have : (a, s).2.start = s.start := rfl
                omega
              · exact c
            obtain ⟨z1, z2, z3, _⟩ := span_parts hsp
            have ew2 : IntKind.i64.wrap (s.start + a.ticks) = s.start + a.ticks := IntWalk.i64_in _ (by omega)
            have htk := gw_take hG.out hso.out.gang hso.out.gle s.start (s.start + a.ticks) a.v wr.drew (Below.refl _ _).drew
            have hcur : Below w3.heap.size w3 wr.drew := hG.out.low.drew
            rw [hbo] at c4
            have hS : Hid (∀ w' : World, Below w3.heap.size w3 w' → w'.cell? ⟨b, off + k * 3 + 1, none⟩ = some (.int .i64 s.start) ∧ w'.cell? ⟨b, off + k * 3 + 2, none⟩ = some (.slice s.go s.gn s.gc) ∧ w'.cell? ⟨w.heap.size, 4, none⟩ = some (.slice (some ⟨b', off', none⟩) x.an x.ac) ∧ w'.cell? ⟨b', off' + k * 10 + 3, none⟩ = some (.int .i64 a.v.a) ∧ w'.cell? ⟨b', off' + k * 10 + 4, none⟩ = some (.int .i64 a.v.b) ∧ w'.cell? ⟨b', off' + k * 10 + 5, none⟩ = some (.int .i64 a.v.c) ∧ w'.cell? ⟨b', off' + k * 10 + 6, none⟩ = some (.int .i64 a.v.d) ∧ w'.cell? ⟨b', off' + k * 10 + 7, none⟩ = some (.int .i64 a.ticks)) := fun w' h' =>
              ⟨(below_cell h' hb).trans s1, (below_cell h' hb).trans s2, (below_cell h' lx).trans c4, (below_cell h' hb').trans a3, (below_cell h' hb').trans a4, (below_cell h' hb').trans a5, (below_cell h' hb').trans a6, (below_cell h' hb').trans a7⟩
            replace hsp := Lib.hid hsp; replace z1 := Lib.hid z1; replace z2 := Lib.hid z2; replace z3 := Lib.hid z3; replace htk := Lib.hid htk; replace hcur := Lib.hid hcur; replace q5 := Lib.hid q5; replace hbo := Lib.hid hbo
            clear s1 s2 c0 c1 c2 c3 c4 a3 a4 a5 a6 a7
            go_wp2_with fail
            clear t1
            go_region_held3 (fun w' => w'.cell? ⟨b, off + k * 3 + 1, none⟩ = some (.int .i64 s.start) ∧ w'.cell? ⟨b, off + k * 3 + 2, none⟩ = some (.slice s.go s.gn s.gc) ∧ w'.cell? ⟨w.heap.size, 4, none⟩ = some (.slice (some ⟨b', off', none⟩) x.an x.ac) ∧ w'.cell? ⟨b', off' + k * 10 + 3, none⟩ = some (.int .i64 a.v.a) ∧ w'.cell? ⟨b', off' + k * 10 + 4, none⟩ = some (.int .i64 a.v.b) ∧ w'.cell? ⟨b', off' + k * 10 + 5, none⟩ = some (.int .i64 a.v.c) ∧ w'.cell? ⟨b', off' + k * 10 + 6, none⟩ = some (.int .i64 a.v.d) ∧ w'.cell? ⟨b', off' + k * 10 + 7, none⟩ = some (.int .i64 a.ticks))
              (first
                | with_reducible exact hS.out _ hcur.out)
              (first
                | (go_at_call 35
                   refine htk.out.mono ?_
                   rintro e w8 ⟨r8, q8, rfl, hTk, hl8, hG8, hm8⟩
                   replace hcur := Lib.hid hG8.low
                   replace hTk := Lib.hid hTk; replace hl8 := Lib.hid hl8; replace hG8 := Lib.hid hG8; replace hm8 := Lib.hid hm8))
            have hH2 := (slot_step hz.out hpo.out.slot q5.out hpo.out.le hH.out hTk.out hl8.out).2
            replace hH2 := Lib.hid hH2
            go_wp2
            go_roundw
            case rel => exact ⟨k + 1, q8, by go_num, by omega, hG8.out, hH2.out⟩
            case measure => simp [intOf]; omega
          · have d5 : decide (0 ≤ s.start) = false := by simpa using q5
            have hH2 := slot_skip hz.out q5 hH.out
            replace hH2 := Lib.hid hH2; replace q5 := Lib.hid q5
            clear s1 s2 c0 c1 c2 c3 c4 a3 a4 a5 a6 a7
            go_wp2
            go_roundw
            case rel => exact ⟨k + 1, q, by go_num, by omega, hG.out, hH2.out⟩
            case measure => simp [intOf]; omega
        · have hc1 : ¬ (k : Int) < x.an := by omega
          have hkn : k = x.an := by omega
          subst hkn
          obtain ⟨l, hl⟩ : ∃ l, x.an = l + 1 := ⟨x.an - 1, by have := q0.out; omega⟩
          have hll : l < x.an := by omega
          have ej : IntKind.i64.wrap ((x.an : Int) - 1) = (l : Int) := by rw [IntWalk.i64_in _ (by omega)]; omega
          have hl1 : (l : Int) < x.an := by omega
          have hl0 : (0 : Int) ≤ (l : Int) := by omega
          obtain ⟨s, hsx⟩ := hs.out.get hll
          obtain ⟨b, off, rfl, hb, a0, hso⟩ := hs.out.cell l s hsx
          have s1 := a0 1 (by omega); have s2 := a0 2 (by omega)
          simp at s1 s2
          clear a0
          obtain ⟨a, hax⟩ := hS3.out.ok.asks.get hll
          obtain ⟨b', off', hbo, hb', a0, hao⟩ := hS3.out.ok.asks.cell l a hax
          have a1 := (below_cell hG.out.low hb').trans (a0 0 (by omega)); have a2 := (below_cell hG.out.low hb').trans (a0 1 (by omega)); have a3 := (below_cell hG.out.low hb').trans (a0 2 (by omega)); have a4 := (below_cell hG.out.low hb').trans (a0 3 (by omega)); have a5 := (below_cell hG.out.low hb').trans (a0 4 (by omega))
          have a6 := (below_cell hG.out.low hb').trans (a0 5 (by omega)); have a7 := (below_cell hG.out.low hb').trans (a0 6 (by omega)); have a8 := (below_cell hG.out.low hb').trans (a0 7 (by omega)); have a9 := (below_cell hG.out.low hb').trans (a0 8 (by omega)); have a10 := (below_cell hG.out.low hb').trans (a0 9 (by omega))
          simp at a1 a2 a3 a4 a5 a6 a7 a8 a9 a10
          clear a0
          have hz := zip_get hax hsx
          have hsk := hpo.out.slot _ (List.mem_of_getElem? hz)
          rw [hbo] at c4
          have b4 := (below_cell hG.out.low lx).trans c4
          have hrc := rcan_any a (wr.alloc a.obj)
          have hbx := blk_new wr a.obj
          have hBa : Below wr.heap.size wr (wr.alloc a.obj) := (Below.refl _ _).alloc (Nat.le_refl _) _
          replace hsx := Lib.hid hsx; replace hax := Lib.hid hax; replace hz := Lib.hid hz; replace hsk := Lib.hid hsk; replace hso := Lib.hid hso; replace hao := Lib.hid hao; replace hbo := Lib.hid hbo; replace hl := Lib.hid hl; replace hll := Lib.hid hll; replace hrc := Lib.hid hrc; replace hbx := Lib.hid hbx; replace hBa := Lib.hid hBa
          go_wp2_with fail
          refine hrc.out.mono ?_
          rintro e w5 ⟨rfl, hb5⟩
          have hG5 := (hG.out.below hBa.out).below hb5
          have hx5 := blk_below hb5 hbx.out (blk_lt hbx.out)
          have hlow5 : Below w.heap.size w w5 := hlow3.out.trans (hG5.low.mono hlow3.out.size)
          have t1 := (below_cell hG5.low hb).trans s1
          clear b4 a1 a2 a3 a4 a5 a6 a7 a8 a9 a10
          replace hb5 := Lib.hid hb5; replace hG5 := Lib.hid hG5; replace hx5 := Lib.hid hx5; replace hlow5 := Lib.hid hlow5
          cases hcan : a.can
          · have hst : s.start = -1 := by
              rcases hsk.out.2 with ⟨c, _⟩ | ⟨c, _⟩
              · exact c
              · have c' : a.can = true := c
                rw [hcan] at c'; cases c'
            have d6 : (s.start == -1) = true := by simpa using hst
            replace hst := Lib.hid hst; replace hcan := Lib.hid hcan
            clear s1 s2 c0 c1 c2 c3 c4
            go_wp2
            go_ret
            exact ⟨rfl, hlow5.out⟩
          obtain ⟨m, mq, hHm, hFm⟩ := pass_last hp.out (k := l) (by rw [hN2.out]; exact hl.out.symm) hax.out hsx.out
          have hzl := hz.out
          by_cases q6 : s.start < 0
          · have d6 : decide (s.start < 0) = true := by simpa using q6
            have hHl : Held x.vs (addU (holdsU x.now x.hs) (slotsU ((x.asks.zip slots).take l))) q := hH.out.eqU (by
              rw [hl.out, take_snoc hz.out, slotsU_app, slotsU_one]
              have : ¬ 0 ≤ (a, s).2.start := by show ¬ 0 ≤ s.start; omega
              simp only [slotU, if_neg this, addU_no])
            have hsame := held_same hHm hHl rfl
            have hlm : q.length = m.length := by rw [hHl.len, hHm.len]
            replace hcan := Lib.hid hcan; replace hHm := Lib.hid hHm; replace hFm := Lib.hid hFm; replace hzl := Lib.hid hzl; replace hHl := Lib.hid hHl; replace hsame := Lib.hid hsame; replace q6 := Lib.hid q6
            have hlm' := Lib.hid hlm
            clear hlm
            have hpl := rplaces_any x.un x.uc x.uo x.bs a w5.drew (hS3.out.ok.up.below hG5.out.low.drew (Nat.le_refl _)) (hao.out.places.below hG5.out.low.drew (Nat.le_refl _)) (by have := hfw.out.un; omega)
            obtain ⟨y0, y1, y2, y3, y4, y5, y6, y7, y8, y9⟩ := ask_cells hx5.out
            have ly := blk_lt hx5.out
            have e1 := (below_cell hG5.out.low lx).trans c1
            have e2 := (below_cell hG5.out.low lx).trans c2
            have lw := Nat.lt_of_lt_of_le lx hG5.out.low.size
            have hcur : Below w5.heap.size w5 w5.drew := (Below.refl _ _).drew
            have hS : Hid (∀ w' : World, Below w5.heap.size w5 w' → w'.cell? ⟨w.heap.size, 1, none⟩ = some (.slice x.uo x.un x.uc) ∧ w'.cell? ⟨w.heap.size, 2, none⟩ = some (.int .i64 x.now) ∧ w'.cell? ⟨wr.heap.size, 0, none⟩ = some (.int .i64 a.id) ∧ w'.cell? ⟨wr.heap.size, 1, none⟩ = some (.slice a.po a.pn a.pc) ∧ w'.cell? ⟨wr.heap.size, 2, none⟩ = some (.int .i64 a.nodes) ∧ w'.cell? ⟨wr.heap.size, 3, none⟩ = some (.int .i64 a.v.a) ∧ w'.cell? ⟨wr.heap.size, 4, none⟩ = some (.int .i64 a.v.b) ∧ w'.cell? ⟨wr.heap.size, 5, none⟩ = some (.int .i64 a.v.c) ∧ w'.cell? ⟨wr.heap.size, 6, none⟩ = some (.int .i64 a.v.d) ∧ w'.cell? ⟨wr.heap.size, 7, none⟩ = some (.int .i64 a.ticks) ∧ w'.cell? ⟨wr.heap.size, 8, none⟩ = some (.int .i64 a.start) ∧ w'.cell? ⟨wr.heap.size, 9, none⟩ = some (.slice a.go a.gn a.gc)) := fun w' h =>
              ⟨(below_cell h lw).trans e1, (below_cell h lw).trans e2, (below_cell h ly).trans y0, (below_cell h ly).trans y1, (below_cell h ly).trans y2, (below_cell h ly).trans y3, (below_cell h ly).trans y4, (below_cell h ly).trans y5, (below_cell h ly).trans y6, (below_cell h ly).trans y7, (below_cell h ly).trans y8, (below_cell h ly).trans y9⟩
            have hfd : ∀ so sn sc W', Below w5.heap.size w5 W' → IntsAt W' so sn (ints (plc x.bs a.pzs)) → Calls Try.prog 36 #[.pointer (some ⟨gb, 0, none⟩), .slice so sn sc, .int .i64 a.nodes, a.v.val, .int .i64 a.ticks, .int .i64 x.now] W' (FindPost q (ints (plc x.bs a.pzs)) a.nodes a.v a.ticks x.now W') :=
              fun so sn sc W' h hz => find_any gb gs cap po q so sn sc (ints (plc x.bs a.pzs)) a.nodes a.v a.ticks x.now W' (hG5.out.pool.below h) hz
            replace hpl := Lib.hid hpl; replace hcur := Lib.hid hcur; replace hfd := Lib.hid hfd; replace lw := Lib.hid lw
            clear e1 e2 y0 y1 y2 y3 y4 y5 y6 y7 y8 y9 ly
            go_wp2_with fail
            clear t1 s1 s2 c0 c1 c2 c3 c4
            go_region_held3 (fun w' => w'.cell? ⟨w.heap.size, 1, none⟩ = some (.slice x.uo x.un x.uc) ∧ w'.cell? ⟨w.heap.size, 2, none⟩ = some (.int .i64 x.now) ∧ w'.cell? ⟨wr.heap.size, 0, none⟩ = some (.int .i64 a.id) ∧ w'.cell? ⟨wr.heap.size, 1, none⟩ = some (.slice a.po a.pn a.pc) ∧ w'.cell? ⟨wr.heap.size, 2, none⟩ = some (.int .i64 a.nodes) ∧ w'.cell? ⟨wr.heap.size, 3, none⟩ = some (.int .i64 a.v.a) ∧ w'.cell? ⟨wr.heap.size, 4, none⟩ = some (.int .i64 a.v.b) ∧ w'.cell? ⟨wr.heap.size, 5, none⟩ = some (.int .i64 a.v.c) ∧ w'.cell? ⟨wr.heap.size, 6, none⟩ = some (.int .i64 a.v.d) ∧ w'.cell? ⟨wr.heap.size, 7, none⟩ = some (.int .i64 a.ticks) ∧ w'.cell? ⟨wr.heap.size, 8, none⟩ = some (.int .i64 a.start) ∧ w'.cell? ⟨wr.heap.size, 9, none⟩ = some (.slice a.go a.gn a.gc))
              (first
                | with_reducible exact hS.out _ hcur.out)
              (first
                | (go_at_call 55
                   refine hpl.out.mono ?_
                   rintro e w6 ⟨so6, sn6, sc6, rfl, hz6, _, _, hb6⟩
                   replace hcur := Lib.hid (hcur.out.trans (hb6.mono hcur.out.size))
                   replace hz6 := Lib.hid hz6; replace hb6 := Lib.hid hb6)
                | (go_at_call 36
                   refine (hfd.out _ _ _ _ hcur.out hz6.out).mono ?_
                   rintro e w7 ⟨t7, so7, sn7, sc7, xs7, is7, rfl, hR7, hz7, hc7, hf7, hb7⟩
                   replace hcur := Lib.hid (hcur.out.trans (hb7.mono hcur.out.size))
                   replace hR7 := Lib.hid hR7; replace hz7 := Lib.hid hz7; replace hf7 := Lib.hid hf7; replace hb7 := Lib.hid hb7))
            have his := (found_no hFm.out hcan.out hR7.out hlm'.out hsame.out).1 q6.out
            have hlow7 := hlow5.out.trans (hcur.out.mono hlow5.out.size)
            subst his
            replace hlow7 := Lib.hid hlow7
            go_wp2
            go_ret
            exact ⟨rfl, hlow7.out⟩
          have d6 : decide (s.start < 0) = false := by simpa using q6
          have q6' : 0 ≤ s.start := by omega
          obtain ⟨hga, hsp⟩ : Gang x.vs.length s.gzs ∧ spanL s.start (s.start + a.ticks) a.v = true := by
            rcases hsk.out.2 with ⟨c, _⟩ | ⟨_, _, _, _, c, c'⟩
            · have : (a, s).2.start = s.start := rfl
              omega
            · exact ⟨c, c'⟩
          obtain ⟨z1, z2, z3, _⟩ := span_parts hsp
          have ew2 : IntKind.i64.wrap (s.start + a.ticks) = s.start + a.ticks := IntWalk.i64_in _ (by omega)
          have hHl : Held x.vs (addU (addU (holdsU x.now x.hs) (slotsU ((x.asks.zip slots).take l))) (itm s.gzs s.start (s.start + a.ticks) a.v)) q := hH.out.eqU (by
            rw [hl.out, take_snoc hz.out, slotsU_app, slotsU_one, addU_assoc]
            have : 0 ≤ (a, s).2.start := q6'
            simp only [slotU, if_pos this])
          have hgv := gw_give hG5.out hso.out.gang hso.out.gle s.start (s.start + a.ticks) a.v w5.drew (Below.refl _ _).drew
          have hcur : Below w3.heap.size w3 w5.drew := hG5.out.low.drew
          obtain ⟨y0, y1, y2, y3, y4, y5, y6, y7, y8, y9⟩ := ask_cells hx5.out
          have ly := blk_lt hx5.out
          have hnm : ¬ Mine q wr.heap.size := not_mineT hG5.out.pool hx5.out (by decide) (by decide)
          have hS : Hid (∀ w' : World, Below w3.heap.size w3 w' → (∀ o, w'.cell? ⟨wr.heap.size, o, none⟩ = w5.cell? ⟨wr.heap.size, o, none⟩) → w'.cell? ⟨b, off + l * 3 + 1, none⟩ = some (.int .i64 s.start) ∧ w'.cell? ⟨b, off + l * 3 + 2, none⟩ = some (.slice s.go s.gn s.gc) ∧ w'.cell? ⟨wr.heap.size, 3, none⟩ = some (.int .i64 a.v.a) ∧ w'.cell? ⟨wr.heap.size, 4, none⟩ = some (.int .i64 a.v.b) ∧ w'.cell? ⟨wr.heap.size, 5, none⟩ = some (.int .i64 a.v.c) ∧ w'.cell? ⟨wr.heap.size, 6, none⟩ = some (.int .i64 a.v.d) ∧ w'.cell? ⟨wr.heap.size, 7, none⟩ = some (.int .i64 a.ticks)) := fun w' h h' =>
            ⟨(below_cell h hb).trans s1, (below_cell h hb).trans s2, (h' _).trans y3, (h' _).trans y4, (h' _).trans y5, (h' _).trans y6, (h' _).trans y7⟩
          have hbo5 : Hid (∀ o, w5.drew.cell? ⟨wr.heap.size, o, none⟩ = w5.cell? ⟨wr.heap.size, o, none⟩) := fun o => rfl
          replace hga := Lib.hid hga; replace hsp := Lib.hid hsp; replace z1 := Lib.hid z1; replace z2 := Lib.hid z2; replace z3 := Lib.hid z3; replace hHl := Lib.hid hHl; replace hgv := Lib.hid hgv; replace hcur := Lib.hid hcur; replace hnm := Lib.hid hnm; replace q6 := Lib.hid q6; replace q6' := Lib.hid q6'; replace hcan := Lib.hid hcan; replace hHm := Lib.hid hHm; replace hFm := Lib.hid hFm; replace hzl := Lib.hid hzl
          clear y0 y1 y2 y8 y9
          go_wp2_with fail
          clear t1 y3 y4 y5 y6 y7
          go_region_held3 (fun w' => w'.cell? ⟨b, off + l * 3 + 1, none⟩ = some (.int .i64 s.start) ∧ w'.cell? ⟨b, off + l * 3 + 2, none⟩ = some (.slice s.go s.gn s.gc) ∧ w'.cell? ⟨wr.heap.size, 3, none⟩ = some (.int .i64 a.v.a) ∧ w'.cell? ⟨wr.heap.size, 4, none⟩ = some (.int .i64 a.v.b) ∧ w'.cell? ⟨wr.heap.size, 5, none⟩ = some (.int .i64 a.v.c) ∧ w'.cell? ⟨wr.heap.size, 6, none⟩ = some (.int .i64 a.v.d) ∧ w'.cell? ⟨wr.heap.size, 7, none⟩ = some (.int .i64 a.ticks))
            (first
              | with_reducible exact hS.out _ hcur.out hbo5.out)
            (first
              | (go_at_call 40
                 refine hgv.out.mono ?_
                 rintro e w8 ⟨r8, q8, rfl, hGv, hl8, hG8, hm8⟩
                 replace hcur := Lib.hid hG8.low
                 replace hbo5 : Hid (∀ o, w8.cell? ⟨wr.heap.size, o, none⟩ = w5.cell? ⟨wr.heap.size, o, none⟩) := fun o => World.cell?_of_block (a := ⟨wr.heap.size, o, none⟩) (w := w5) (hm8.block _ ly hnm.out)
                 replace hGv := Lib.hid hGv; replace hl8 := Lib.hid hl8; replace hG8 := Lib.hid hG8; replace hm8 := Lib.hid hm8))
          have hx8 : w8.heap[wr.heap.size]? = some a.obj := (hm8.out.block _ ly hnm.out).trans hx5.out
          have hH8 := (held_gave hHl.out (nn_add (nn_holds hpo.out.holds) (nn_slots fun y hy => hpo.out.slot y (List.mem_of_mem_take hy))) hga.out hsp.out hl8.out hGv.out).2
          have hsame := held_same hHm.out hH8 rfl
          have hlm : q8.length = m.length := by rw [hH8.len, hHm.out.len]
          have hlow8 : Below w.heap.size w w8 := hlow3.out.trans (hG8.out.low.mono hlow3.out.size)
          have hlm' := Lib.hid hlm
          clear hlm
          replace hx8 := Lib.hid hx8; replace hH8 := Lib.hid hH8; replace hsame := Lib.hid hsame; replace hlow8 := Lib.hid hlow8
          clear hcur hS hbo5 ly
          have hpl := rplaces_any x.un x.uc x.uo x.bs a w8.drew (hS3.out.ok.up.below hG8.out.low.drew (Nat.le_refl _)) (hao.out.places.below hG8.out.low.drew (Nat.le_refl _)) (by have := hfw.out.un; omega)
          obtain ⟨y0, y1, y2, y3, y4, y5, y6, y7, y8, y9⟩ := ask_cells hx8.out
          have ly := blk_lt hx8.out
          have e1 := (below_cell hG8.out.low lx).trans c1
          have e2 := (below_cell hG8.out.low lx).trans c2
          have lw := Nat.lt_of_lt_of_le lx hG8.out.low.size
          have hcur : Below w8.heap.size w8 w8.drew := (Below.refl _ _).drew
          have hS : Hid (∀ w' : World, Below w8.heap.size w8 w' → w'.cell? ⟨w.heap.size, 1, none⟩ = some (.slice x.uo x.un x.uc) ∧ w'.cell? ⟨w.heap.size, 2, none⟩ = some (.int .i64 x.now) ∧ w'.cell? ⟨wr.heap.size, 0, none⟩ = some (.int .i64 a.id) ∧ w'.cell? ⟨wr.heap.size, 1, none⟩ = some (.slice a.po a.pn a.pc) ∧ w'.cell? ⟨wr.heap.size, 2, none⟩ = some (.int .i64 a.nodes) ∧ w'.cell? ⟨wr.heap.size, 3, none⟩ = some (.int .i64 a.v.a) ∧ w'.cell? ⟨wr.heap.size, 4, none⟩ = some (.int .i64 a.v.b) ∧ w'.cell? ⟨wr.heap.size, 5, none⟩ = some (.int .i64 a.v.c) ∧ w'.cell? ⟨wr.heap.size, 6, none⟩ = some (.int .i64 a.v.d) ∧ w'.cell? ⟨wr.heap.size, 7, none⟩ = some (.int .i64 a.ticks) ∧ w'.cell? ⟨wr.heap.size, 8, none⟩ = some (.int .i64 a.start) ∧ w'.cell? ⟨wr.heap.size, 9, none⟩ = some (.slice a.go a.gn a.gc)) := fun w' h =>
            ⟨(below_cell h lw).trans e1, (below_cell h lw).trans e2, (below_cell h ly).trans y0, (below_cell h ly).trans y1, (below_cell h ly).trans y2, (below_cell h ly).trans y3, (below_cell h ly).trans y4, (below_cell h ly).trans y5, (below_cell h ly).trans y6, (below_cell h ly).trans y7, (below_cell h ly).trans y8, (below_cell h ly).trans y9⟩
          have hfd : ∀ so sn sc W', Below w8.heap.size w8 W' → IntsAt W' so sn (ints (plc x.bs a.pzs)) → Calls Try.prog 36 #[.pointer (some ⟨gb, 0, none⟩), .slice so sn sc, .int .i64 a.nodes, a.v.val, .int .i64 a.ticks, .int .i64 x.now] W' (FindPost q8 (ints (plc x.bs a.pzs)) a.nodes a.v a.ticks x.now W') :=
            fun so sn sc W' h hz => find_any gb gs cap po q8 so sn sc (ints (plc x.bs a.pzs)) a.nodes a.v a.ticks x.now W' (hG8.out.pool.below h) hz
          replace hpl := Lib.hid hpl; replace hcur := Lib.hid hcur; replace hfd := Lib.hid hfd; replace lw := Lib.hid lw
          clear e1 e2 y0 y1 y2 y3 y4 y5 y6 y7 y8 y9 ly
          go_wp2_with fail
          go_region_held3 (fun w' => w'.cell? ⟨w.heap.size, 1, none⟩ = some (.slice x.uo x.un x.uc) ∧ w'.cell? ⟨w.heap.size, 2, none⟩ = some (.int .i64 x.now) ∧ w'.cell? ⟨wr.heap.size, 0, none⟩ = some (.int .i64 a.id) ∧ w'.cell? ⟨wr.heap.size, 1, none⟩ = some (.slice a.po a.pn a.pc) ∧ w'.cell? ⟨wr.heap.size, 2, none⟩ = some (.int .i64 a.nodes) ∧ w'.cell? ⟨wr.heap.size, 3, none⟩ = some (.int .i64 a.v.a) ∧ w'.cell? ⟨wr.heap.size, 4, none⟩ = some (.int .i64 a.v.b) ∧ w'.cell? ⟨wr.heap.size, 5, none⟩ = some (.int .i64 a.v.c) ∧ w'.cell? ⟨wr.heap.size, 6, none⟩ = some (.int .i64 a.v.d) ∧ w'.cell? ⟨wr.heap.size, 7, none⟩ = some (.int .i64 a.ticks) ∧ w'.cell? ⟨wr.heap.size, 8, none⟩ = some (.int .i64 a.start) ∧ w'.cell? ⟨wr.heap.size, 9, none⟩ = some (.slice a.go a.gn a.gc))
            (first
              | with_reducible exact hS.out _ hcur.out)
            (first
              | (go_at_call 55
                 refine hpl.out.mono ?_
                 rintro e w6 ⟨so6, sn6, sc6, rfl, hz6, _, _, hb6⟩
                 replace hcur := Lib.hid (hcur.out.trans (hb6.mono hcur.out.size))
                 replace hz6 := Lib.hid hz6; replace hb6 := Lib.hid hb6)
              | (go_at_call 36
                 refine (hfd.out _ _ _ _ hcur.out hz6.out).mono ?_
                 rintro e w7 ⟨t7, so7, sn7, sc7, xs7, is7, rfl, hR7, hz7, hc7, hf7, hb7⟩
                 replace hcur := Lib.hid (hcur.out.trans (hb7.mono hcur.out.size))
                 replace hR7 := Lib.hid hR7; replace hz7 := Lib.hid hz7; replace hf7 := Lib.hid hf7; replace hb7 := Lib.hid hb7))
          obtain ⟨rfl, rfl, hzs⟩ := (found_no hFm.out hcan.out hR7.out hlm'.out hsame.out).2 q6'.out
          have hL7 : Below w3.heap.size w3 w7 := hG8.out.low.trans (hcur.out.mono hG8.out.low.size)
          have hlow7 := hlow8.out.trans (hcur.out.mono hlow8.out.size)
          have t1 := (below_cell hL7 hb).trans s1
          have t2 := (below_cell hL7 hb).trans s2
          have hsm := samei_any so7 s.go sn7 s.gn sc7 s.gc (ints xs7) s.gzs w7 hz7.out (hso.out.gang.below hL7 (Nat.le_refl _))
          replace hzs := Lib.hid hzs; replace hL7 := Lib.hid hL7; replace hlow7 := Lib.hid hlow7; replace hsm := Lib.hid hsm
          clear s1 s2 c0 c1 c2 c3 c4
          go_wp2_with fail
          refine hsm.out.mono ?_
          rintro e w9 ⟨b9, rfl, hb9, hbl9⟩
          have hb9' := hb9.2 hzs.out
          subst hb9'
          have hlow9 := hlow7.out.trans (hbl9.mono hlow7.out.size)
          clear hb9
          replace hbl9 := Lib.hid hbl9; replace hlow9 := Lib.hid hlow9
          go_wp2
          go_ret
          exact ⟨rfl, hlow9.out⟩
end Go.Proofs.Ytpjajiambbobhaa
