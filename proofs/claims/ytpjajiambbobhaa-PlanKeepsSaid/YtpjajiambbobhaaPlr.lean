/- corveelaw12.PlanDown answers true. -/
import Derived.Test.YtpjajiambbobhaaPmd
import Derived.Test.YtpjajiambbobhaaPlq
namespace Go.Proofs.Ytpjajiambbobhaa
open Go.RowKit

/-- a pass, both ways -/
def PassU (vs : List V4) (now : Int) (bs : List Bool) (hs : List Hold) (asks : List Ask) (w : World) (e : Ending) (w' : World) : Prop :=
  ∃ so n sc slots r, e = .returned (.tuple #[.slice so n sc, .int .i64 r]) ∧ SlotsAt w' so n slots ∧ ((r ≠ 0 ∧ n = 0 ∧ LayRel vs bs.length now hs r []) ∨ (r = 0 ∧ n = asks.length ∧ PassRel vs now bs hs asks slots)) ∧ Below w.heap.size w w' ∧ n ≤ sc ∧
    (∀ b off, so = some ⟨b, off, none⟩ → w.heap.size ≤ b) ∧ ∀ s, s ∈ slots → ∀ b off, s.go = some ⟨b, off, none⟩ → w.heap.size ≤ b
theorem passu_any (vo uo ho ao : Option Addr) (n c un uc m mc l lc : Nat) (vs : List V4) (bs : List Bool) (now : Int) (hs : List Hold) (asks : List Ask) (w : World) (hv : VecsAt w vo n vs) (hu : BoolsAt w uo un bs) (hh : HoldsAt w ho m hs) (ha : AsksAt w ao l asks) (hl : l ≤ 1000000) :
    Calls Try.prog 49 #[.slice vo n c, .slice uo un uc, .int .i64 now, .slice ho m mc, .slice ao l lc] w (PassU vs now bs hs asks w) := by
  refine (pass_any vo uo ho ao n c un uc m mc l lc vs bs now hs asks w hv hu hh ha hl).mono ?_
  rintro e w' ⟨hb, ⟨r, hr, rfl, hL⟩ | ⟨so, sc, slots, rfl, hp, hs, hsc, h1, h2⟩⟩
  · exact ⟨none, 0, 0, [], r, rfl, ⟨rfl, by omega, fun i x hx => by simp at hx⟩, .inl ⟨hr, rfl, hL⟩, hb, Nat.le_refl _, fun b off e => (by cases e), fun s hs => (by cases hs)⟩
  · exact ⟨so, asks.length, sc, slots, 0, rfl, hs, .inr ⟨rfl, rfl, hp⟩, hb, hsc, h1, h2⟩
structure SA (w : World) (x : Scene) (a : Ask) (wr : World) : Prop where
  xb : wr.heap[w.heap.size]? = some x.obj
  ab : wr.heap[w.heap.size + 1]? = some a.obj
  xok : x.ok wr
  aok : a.ok wr
  low : Below w.heap.size w wr
theorem SA.below {w : World} {x : Scene} {a : Ask} {wr w' : World} (h : SA w x a wr) (hb : Below wr.heap.size wr w') : SA w x a w' :=
  ⟨blk_below hb h.xb (blk_lt h.xb), blk_below hb h.ab (blk_lt h.ab), h.xok.below hb, h.aok.below' hb, h.low.trans (hb.mono h.low.size)⟩
theorem SA.new {w : World} {x : Scene} {a : Ask} (hx : x.ok w) (ha : a.ok w) : SA w x a ((w.alloc x.obj).alloc a.obj) := by
  have hb : Below w.heap.size w ((w.alloc x.obj).alloc a.obj) := ((Below.refl _ _).alloc (Nat.le_refl _) _).alloc (by simp) _
  exact ⟨blk_old _ (blk_new _ _), blk_at _ _ (by simp), hx.below hb, ha.below' hb, hb⟩
abbrev Ask.fresh (a : Ask) : Ask := { a with start := -1 }
theorem SA.set {w : World} {x : Scene} {a : Ask} {wr : World} (h : SA w x a wr) (hx : x.ok w) (ha : a.ok w) : SA w x a.fresh (wr.setCell ⟨w.heap.size + 1, 8, none⟩ (.int .i64 (-1))) := by
  have hb : Below w.heap.size w (wr.setCell ⟨w.heap.size + 1, 8, none⟩ (.int .i64 (-1))) := h.low.setCell (Nat.le_succ _) _
  have k := ha.below' hb
  exact ⟨blk_set_other (by omega) _ h.xb, blk_set h.ab 8 _, hx.below hb, ⟨k.places, k.ple, k.gang, k.gle⟩, hb⟩
theorem asks_one (w : World) (a : Ask) (h : a.ok w) : AsksAt (w.alloc (.cells a.cells 84 (0, 0))) (some ⟨w.heap.size, 0, none⟩) 1 [a] := by
  refine ⟨rfl, by omega, fun i y hy => ?_⟩
  have hi : i = 0 := by have := (List.getElem?_eq_some_iff.1 hy).1; simpa using this
  subst hi
  have e : a = y := by simpa using hy
  subst e
  refine ⟨w.heap.size, 0, rfl, by simp, fun j hj => ?_, h.below' ((Below.refl _ _).alloc (Nat.le_refl _) _)⟩
  rw [blk_cell (blk_new w _)]; simp
theorem holds_none (w : World) : HoldsAt w none 0 [] := ⟨rfl, by omega, fun i x hx => by simp at hx⟩
theorem bools_down (w : World) (n : Nat) (hn : n ≤ 1000000) : BoolsAt (w.alloc (.cells (Array.replicate n (.bool false)) 4 (0, 0))) (some ⟨w.heap.size, 0, none⟩) n (List.replicate n false) := by
  refine ⟨by simp, by omega, fun i hi => ⟨w.heap.size, 0, rfl, by simp, ?_⟩⟩
  rw [blk_cell (blk_new w _)]
  simp [bi, List.getD, hi]

set_option maxRecDepth 100000 in
set_option maxHeartbeats 12800000 in
theorem pdown_any (x : Scene) (a : Ask) (w : World) (hok : x.ok w) (hak : a.ok w) : Calls Try.prog 16 #[x.val, a.val] w fun e w' => e = .returned (.bool true) ∧ Below w.heap.size w w' := by
  have hS0 := SA.new hok hak
  replace hok := Lib.hid hok; replace hak := Lib.hid hak; replace hS0 := Lib.hid hS0
  go_enter Try.func16, Try.ntmps16
  go_wp2_with fail
  refine (pawake_any _).mono ?_
  rintro e w1 ⟨rfl, hb1⟩
  have hS1 := hS0.out.below hb1
  obtain ⟨c0, c1, c2, c3, c4⟩ := scene_cells hS1.xb
  have lx := blk_lt hS1.xb
  obtain ⟨y0, y1, y2, y3, y4, y5, y6, y7, y8, y9⟩ := ask_cells hS1.ab
  have ly := blk_lt hS1.ab
  have hfew := few_any x w1 hS1.xok
  replace hS1 := Lib.hid hS1; replace hb1 := Lib.hid hb1; replace hfew := Lib.hid hfew
  go_wp2_with fail
  refine hfew.out.mono ?_
  rintro e w2 ⟨bf, rfl, hbf, hb2⟩
  have hS2 := hS1.out.below hb2
  clear c0 c1 c2 c3 c4 lx y0 y1 y2 y3 y4 y5 y6 y7 y8 y9 ly
  obtain ⟨c0, c1, c2, c3, c4⟩ := scene_cells hS2.xb
  have lx := blk_lt hS2.xb
  obtain ⟨y0, y1, y2, y3, y4, y5, y6, y7, y8, y9⟩ := ask_cells hS2.ab
  have ly := blk_lt hS2.ab
  have hlow2 := hS2.low
  replace hS2 := Lib.hid hS2; replace hb2 := Lib.hid hb2; replace hlow2 := Lib.hid hlow2
  cases bf with
  | false =>
    clear hbf
    go_wp2
    go_ret
    exact ⟨rfl, hlow2.out⟩
  | true =>
  have hfw := hbf rfl
  clear hbf
  by_cases p1 : 30 < a.pn
  · have d1 : decide (30 < (a.pn : Int)) = true := by simp; omega
    have d2 : decide (30 < a.pn) = true := by simp; omega
    replace hfw := Lib.hid hfw; replace p1 := Lib.hid p1
    go_wp2
    go_ret
    exact ⟨rfl, hlow2.out⟩
  have d1 : decide (30 < (a.pn : Int)) = false := by simp; omega
  have d2 : decide (30 < a.pn) = false := by simp; omega
  by_cases p2 : 20 < a.gn
  · have d3 : decide (20 < (a.gn : Int)) = true := by simp; omega
    have d4 : decide (20 < a.gn) = true := by simp; omega
    replace hfw := Lib.hid hfw; replace p1 := Lib.hid p1; replace p2 := Lib.hid p2
    go_wp2
    go_ret
    exact ⟨rfl, hlow2.out⟩
  have d3 : decide (20 < (a.gn : Int)) = false := by simp; omega
  have d4 : decide (20 < a.gn) = false := by simp; omega
  have han := hfw.an
  have hun := hfw.un
  have hpass := passu_any x.vo x.uo x.ho x.ao x.vn x.vc x.un x.uc x.hn x.hc x.an x.ac x.vs x.bs x.now x.hs x.asks w2 hS2.out.xok.vs hS2.out.xok.up hS2.out.xok.holds hS2.out.xok.asks (by omega)
  replace hpass := Lib.hid hpass; replace hfw := Lib.hid hfw; replace p1 := Lib.hid p1; replace p2 := Lib.hid p2
  go_wp2_with fail
  refine hpass.out.mono ?_
  rintro e w3 ⟨so1, n1, sc1, sl1, r1, rfl, hs1, hr1, hb3, _, _, _⟩
  have hS3 := hS2.out.below hb3
  clear c0 c1 c2 c3 c4 lx y0 y1 y2 y3 y4 y5 y6 y7 y8 y9 ly
  obtain ⟨c0, c1, c2, c3, c4⟩ := scene_cells hS3.xb
  have lx := blk_lt hS3.xb
  obtain ⟨y0, y1, y2, y3, y4, y5, y6, y7, y8, y9⟩ := ask_cells hS3.ab
  have ly := blk_lt hS3.ab
  have hlow3 := hS3.low
  have hul := hS3.xok.up.len
  have hmax1 := hs1.max
  have hup1 : ∀ (k : Nat) (s : Slot), sl1[k]? = some s → ∀ j, j < s.gn → ∃ m : Nat, zi s.gzs j = (m : Int) ∧ m < x.un ∧ bi x.bs m = true := fun k s hsx j hj => by
    have hgl : s.gzs.length = s.gn := by
      obtain ⟨_, _, _, _, _, ho⟩ := hs1.cell k s hsx
      exact ho.gang.len
    rcases hr1 with ⟨_, h0, _⟩ | ⟨_, h0, hp⟩
    · have h1 := (List.getElem?_eq_some_iff.1 hsx).1
      have h2 := hs1.len
      omega
    · have hpo := pass_ok hp
      obtain ⟨y, hy⟩ : ∃ y, x.asks[k]? = some y := ⟨x.asks[k]'(by have h1 := (List.getElem?_eq_some_iff.1 hsx).1; have h2 := hpo.len; omega), List.getElem?_eq_getElem _⟩
      have hz : (x.asks.zip sl1)[k]? = some (y, s) := by rw [List.getElem?_zip_eq_some]; exact ⟨hy, hsx⟩
      obtain ⟨m, e, h3, h4⟩ := slot_up (hpo.slot _ (List.mem_of_getElem? hz)) (j := j) (by show j < s.gzs.length; omega)
      exact ⟨m, e, by rw [← hul]; exact h3, h4⟩
  replace hb3 := Lib.hid hb3; replace hs1 := Lib.hid hs1; replace hr1 := Lib.hid hr1; replace hS3 := Lib.hid hS3; replace hlow3 := Lib.hid hlow3; replace hup1 := Lib.hid hup1; replace hul := Lib.hid hul
  go_wp2
  go_loopw [9, 10, 11] (fun i _ _ wr => ∃ k : Nat, i = .int .i64 k ∧ k ≤ n1 ∧ w3 = wr) (fun i _ _ _ => n1 - (intOf i).toNat)
  case atStart => exact ⟨0, rfl, Nat.zero_le _, rfl⟩
  case round =>
    obtain ⟨k, rfl, hk, rfl⟩ := hrel
    by_cases hc : k < n1
    · have hc1 : (k : Int) < n1 := by omega
      have hk0 : (0 : Int) ≤ (k : Int) := by omega
      obtain ⟨s, hsx⟩ := hs1.out.get hc
      obtain ⟨b, off, rfl, hb, a0, hso⟩ := hs1.out.cell k s hsx
      have s2 := a0 2 (by omega)
      simp at s2
      clear a0
      have hgm := hso.gang.max
      replace hsx := Lib.hid hsx; replace hso := Lib.hid hso
      go_wp2
      go_loopw [10, 11] (fun i _ wr => ∃ j : Nat, i = .int .i64 j ∧ j ≤ s.gn ∧ w3 = wr) (fun i _ _ => s.gn - (intOf i).toNat)
      case atStart => exact ⟨0, rfl, Nat.zero_le _, rfl⟩
      case round =>
        obtain ⟨j, rfl, hj, rfl⟩ := hrel
        by_cases hc' : j < s.gn
        · have hc1' : (j : Int) < s.gn := by omega
          have hj0 : (0 : Int) ≤ (j : Int) := by omega
          obtain ⟨b', off', hgo, hb', g0⟩ := hso.out.gang.cell j hc'
          obtain ⟨m, em, hm1, hm2⟩ := hup1.out k s hsx.out j hc'
          rw [em] at g0
          rw [hgo] at s2
          obtain ⟨b2, off2, huo, hb2, u0⟩ := hS3.out.xok.up.cell m hm1
          rw [hm2] at u0
          rw [huo] at c1
          have hm3 : (m : Int) < x.un := by omega
          have hm0 : (0 : Int) ≤ (m : Int) := by omega
          have dm : decide ((m : Int) < 0) = false := by simp
          have dm2 : decide ((x.un : Int) ≤ (m : Int)) = false := by simp; omega
          have dm3 : decide (x.un ≤ m) = false := by simp; omega
          replace em := Lib.hid em; replace hgo := Lib.hid hgo; replace huo := Lib.hid huo; replace hm1 := Lib.hid hm1; replace hm2 := Lib.hid hm2
          go_wp2
          go_roundw
          case rel => exact ⟨j + 1, by go_num, by omega, trivial⟩
          case measure => simp [intOf]; omega
        · have hc1' : ¬ (j : Int) < s.gn := by omega
          go_wp2
          go_roundw
          case rel => exact ⟨k + 1, by go_num, by omega, trivial⟩
          case measure => simp [intOf]; omega
    · have hc1 : ¬ (k : Int) < n1 := by omega
      have hmk := make_bools x.un (by omega)
      obtain ⟨W4, hW4⟩ : ∃ W4, W4 = w3.alloc (.cells (Array.replicate x.un (.bool false)) 4 (0, 0)) := ⟨_, rfl⟩
      have hB4 : Below w3.heap.size w3 W4 := by rw [hW4]; exact (Below.refl _ _).alloc (Nat.le_refl _) _
      have hS4 := hS3.out.below hB4
      have hdn : BoolsAt W4 (some ⟨w3.heap.size, 0, none⟩) x.un (List.replicate x.un false) := by rw [hW4]; exact bools_down w3 x.un (by omega)
      have hpass2 := passu_any x.vo (some ⟨w3.heap.size, 0, none⟩) x.ho x.ao x.vn x.vc x.un x.un x.hn x.hc x.an x.ac x.vs (List.replicate x.un false) x.now x.hs x.asks W4 hS4.xok.vs hdn hS4.xok.holds hS4.xok.asks (by omega)
      rw [hW4] at hpass2
      replace hW4 := Lib.hid hW4; replace hB4 := Lib.hid hB4; replace hS4 := Lib.hid hS4; replace hdn := Lib.hid hdn; replace hpass2 := Lib.hid hpass2
      go_wp2_with fail
      refine hpass2.out.mono ?_
      rintro e w5 ⟨so2, n2, sc2, sl2, r2, rfl, hs2, hr2, hb5, _, _, _⟩
      rw [← hW4.out] at hb5
      have hS5 := hS4.out.below hb5
      obtain ⟨q1, hL1⟩ : ∃ q, LayRel x.vs x.un x.now x.hs r1 q := by
        rcases hr1.out with ⟨_, _, h⟩ | ⟨h0, _, h⟩
        · exact ⟨[], by rw [← hul.out]; exact h⟩
        · obtain ⟨ps, _, _, _, _, h1, _⟩ := h.go
          exact ⟨ps, by rw [h0, ← hul.out]; exact h1⟩
      obtain ⟨q2, hL2⟩ : ∃ q, LayRel x.vs x.un x.now x.hs r2 q := by
        rcases hr2 with ⟨_, _, h⟩ | ⟨h0, _, h⟩
        · exact ⟨[], by rw [List.length_replicate] at h; exact h⟩
        · obtain ⟨ps, _, _, _, _, h1, _⟩ := h.go
          exact ⟨ps, by rw [List.length_replicate] at h1; rw [h0]; exact h1⟩
      have hrr := lay_det hL1 hL2
      subst hrr
      have hdn2 : ∀ (k : Nat) (s : Slot), sl2[k]? = some s → s.start = -1 ∧ s.gn = 0 := fun k s hsx => by
        have hgl : s.gzs.length = s.gn := by
          obtain ⟨_, _, _, _, _, ho⟩ := hs2.cell k s hsx
          exact ho.gang.len
        rcases hr2 with ⟨_, h0, _⟩ | ⟨_, h0, hp⟩
        · have h1 := (List.getElem?_eq_some_iff.1 hsx).1
          have h2 := hs2.len
          omega
        · have hpo := pass_ok hp
          obtain ⟨y, hy⟩ : ∃ y, x.asks[k]? = some y := ⟨x.asks[k]'(by have h1 := (List.getElem?_eq_some_iff.1 hsx).1; have h2 := hpo.len; omega), List.getElem?_eq_getElem _⟩
          have hz : (x.asks.zip sl2)[k]? = some (y, s) := by rw [List.getElem?_zip_eq_some]; exact ⟨hy, hsx⟩
          have h := slot_down (hpo.slot _ (List.mem_of_getElem? hz))
          have h2 : s.gzs = [] := h.2
          exact ⟨h.1, by rw [← hgl, h2]; simp⟩
      clear c0 c1 c2 c3 c4 lx y0 y1 y2 y3 y4 y5 y6 y7 y8 y9 ly
      obtain ⟨c0, c1, c2, c3, c4⟩ := scene_cells hS5.xb
      have lx := blk_lt hS5.xb
      obtain ⟨y0, y1, y2, y3, y4, y5, y6, y7, y8, y9⟩ := ask_cells hS5.ab
      have ly := blk_lt hS5.ab
      have hlow5 := hS5.low
      have hmax2 := hs2.max
      clear hmk
      replace hb5 := Lib.hid hb5; replace hS5 := Lib.hid hS5; replace hs2 := Lib.hid hs2; replace hr2 := Lib.hid hr2; replace hdn2 := Lib.hid hdn2; replace hL1 := Lib.hid hL1; replace hL2 := Lib.hid hL2; replace hlow5 := Lib.hid hlow5
      go_wp2
      go_loopw [15] (fun i wr => ∃ k : Nat, i = .int .i64 k ∧ k ≤ n2 ∧ w5 = wr) (fun i _ => n2 - (intOf i).toNat)
      case atStart => exact ⟨0, rfl, Nat.zero_le _, rfl⟩
      case round =>
        clear hk hc hc1
        obtain ⟨k, rfl, hk, rfl⟩ := hrel
        by_cases hc : k < n2
        · have hc1 : (k : Int) < n2 := by omega
          have hk0 : (0 : Int) ≤ (k : Int) := by omega
          obtain ⟨s, hsx⟩ := hs2.out.get hc
          obtain ⟨b, off, rfl, hb, a0, hso⟩ := hs2.out.cell k s hsx
          obtain ⟨e1, e2⟩ := hdn2.out k s hsx
          have s1 := a0 1 (by omega); have s2 := a0 2 (by omega)
          simp [e1, e2] at s1 s2
          clear a0
          replace hsx := Lib.hid hsx; replace hso := Lib.hid hso; replace e1 := Lib.hid e1; replace e2 := Lib.hid e2
          go_wp2
          go_roundw
          case rel => exact ⟨k + 1, by go_num, by omega, trivial⟩
          case measure => simp [intOf]; omega
        · have hc1 : ¬ (k : Int) < n2 := by omega
          have f8 := blk_free hS5.out.ab 8
          obtain ⟨W6, hW6⟩ : ∃ W6, W6 = w5.setCell ⟨w.heap.size + 1, 8, none⟩ (.int .i64 (-1)) := ⟨_, rfl⟩
          have hS6 : SA w x a.fresh W6 := by rw [hW6]; exact hS5.out.set hok.out hak.out
          have hz6 : W6.heap.size = w5.heap.size := by rw [hW6]; simp
          have hak6 := asks_one W6 a.fresh hS6.aok
          have hB7 : Below W6.heap.size W6 (W6.alloc (.cells a.fresh.cells 84 (0, 0))) := (Below.refl _ _).alloc (Nat.le_refl _) _
          have hS7 := hS6.below hB7
          have hpass3 := passu_any x.vo x.uo none (some ⟨W6.heap.size, 0, none⟩) x.vn x.vc x.un x.uc 0 0 1 1 x.vs x.bs x.now [] [a.fresh] _ hS7.xok.vs hS7.xok.up (holds_none _) hak6 (by omega)
          rw [hz6, hW6] at hpass3
          have hlow6 := hS6.low
          replace hW6 := Lib.hid hW6; replace hS6 := Lib.hid hS6; replace hz6 := Lib.hid hz6; replace hak6 := Lib.hid hak6; replace hB7 := Lib.hid hB7; replace hS7 := Lib.hid hS7; replace hpass3 := Lib.hid hpass3; replace hlow6 := Lib.hid hlow6
          go_wp2_with fail
          refine hpass3.out.mono ?_
          rintro e w8 ⟨so3, n3, sc3, sl3, r3, rfl, hs3, hr3, hb8, _, _, _⟩
          rw [← hW6.out] at hb8
          have hS8 := hS7.out.below hb8
          have drr : (r1 != r1) = false := by simp
          have drr2 : (r1 == r1) = true := by simp
          clear c0 c1 c2 c3 c4 lx y0 y1 y2 y3 y4 y5 y6 y7 y8 y9 ly
          obtain ⟨c0, c1, c2, c3, c4⟩ := scene_cells hS8.xb
          have lx := blk_lt hS8.xb
          obtain ⟨y0, y1, y2, y3, y4, y5, y6, y7, y8, y9⟩ := ask_cells hS8.ab
          have ly := blk_lt hS8.ab
          have hlow8 := hS8.low
          clear f8
          replace hb8 := Lib.hid hb8; replace hS8 := Lib.hid hS8; replace hs3 := Lib.hid hs3; replace hlow8 := Lib.hid hlow8
          rcases hr3 with ⟨hr3, hn3, hL3⟩ | ⟨hr3, hn3, hp3⟩
          · have d3 : (r3 != 0) = true := by simpa using hr3
            have d3' : (r3 == 0) = false := by simpa using hr3
            have hr1' : r1 = 1 := lay_bad (by rw [hul.out] at hL3; exact hL3) hr3 hL1.out
            have d5 : (r1 == 1) = true := by simp [hr1']
            replace hr3 := Lib.hid hr3; replace hn3 := Lib.hid hn3; replace hL3 := Lib.hid hL3; replace hr1' := Lib.hid hr1'
            go_wp2
            go_ret
            exact ⟨rfl, hlow8.out⟩
          subst hr3
          obtain ⟨s, hsl, hst1, hst2⟩ := one_law hp3
          have hpo := pass_ok hp3
          have hn3' : n3 = 1 := hn3
          subst hn3'
          have hnow0 := hpo.lay.lo
          have hnow1 := hpo.lay.hi
          have hlay := hpo.lay
          subst hsl
          have hrc := rcan_any a.fresh w8
          have hcf : a.fresh.can = a.can := rfl
          rw [hcf] at hrc
          replace hpo := Lib.hid hpo; replace hp3 := Lib.hid hp3; replace hst1 := Lib.hid hst1; replace hst2 := Lib.hid hst2; replace hlay := Lib.hid hlay; replace hrc := Lib.hid hrc; replace hn3 := Lib.hid hn3
          clear hcf
          go_wp2_with fail
          refine hrc.out.mono ?_
          rintro e w9 ⟨rfl, hb9⟩
          have hS9 := hS8.out.below hb9
          have hlow9 := hS9.low
          clear c0 c1 c2 c3 c4 lx y0 y1 y2 y3 y4 y5 y6 y7 y8 y9 ly
          obtain ⟨c0, c1, c2, c3, c4⟩ := scene_cells hS9.xb
          have lx := blk_lt hS9.xb
          obtain ⟨y0, y1, y2, y3, y4, y5, y6, y7, y8, y9⟩ := ask_cells hS9.ab
          have ly := blk_lt hS9.ab
          have hrp := rplaces_any x.un x.uc x.uo x.bs a.fresh w9 hS9.xok.up hS9.aok.places (by omega)
          replace hb9 := Lib.hid hb9; replace hS9 := Lib.hid hS9; replace hlow9 := Lib.hid hlow9; replace hrp := Lib.hid hrp
          go_wp2_with fail
          refine hrp.out.mono ?_
          rintro e w10 ⟨so, sn, sc, rfl, hz10, _, _, hb10⟩
          have hS10 := hS9.out.below hb10
          have hlow10 := hS10.low
          clear c0 c1 c2 c3 c4 lx y0 y1 y2 y3 y4 y5 y6 y7 y8 y9 ly
          obtain ⟨c0, c1, c2, c3, c4⟩ := scene_cells hS10.xb
          have lx := blk_lt hS10.xb
          obtain ⟨y0, y1, y2, y3, y4, y5, y6, y7, y8, y9⟩ := ask_cells hS10.ab
          have ly := blk_lt hS10.ab
          have hpl : (plc x.bs a.pzs).length = sn := by have := hz10.len; simpa [ints] using this
          have hsnm := hz10.max
          replace hb10 := Lib.hid hb10; replace hS10 := Lib.hid hS10; replace hlow10 := Lib.hid hlow10; replace hz10 := Lib.hid hz10; replace hpl := Lib.hid hpl
          go_wp2
          go_loopw [20, 21, 22] (fun c i _ wr => ∃ (k cnt : Nat), i = .int .i64 k ∧ k ≤ sn ∧ c = .int .i64 cnt ∧ Hid (cnt = ((plc x.bs a.pzs).take k).countP (roomy x.vs a.v)) ∧ Hid (Below w10.heap.size w10 wr)) (fun _ i _ _ => sn - (intOf i).toNat)
          case atStart => exact ⟨0, 0, rfl, Nat.zero_le _, rfl, rfl, Below.refl _ _⟩
          case round =>
            clear hk hc hc1
            obtain ⟨k, cnt, rfl, hk, rfl, hcnt, hbr⟩ := hrel
            have hSr := hS10.out.below hbr.out
            clear c0 c1 c2 c3 c4 lx y0 y1 y2 y3 y4 y5 y6 y7 y8 y9 ly
            obtain ⟨c0, c1, c2, c3, c4⟩ := scene_cells hSr.xb
            have lx := blk_lt hSr.xb
            obtain ⟨y0, y1, y2, y3, y4, y5, y6, y7, y8, y9⟩ := ask_cells hSr.ab
            have ly := blk_lt hSr.ab
            have hlowr := hSr.low
            have hcle : cnt ≤ k := by rw [hcnt.out]; exact Nat.le_trans List.countP_le_length (List.length_take_le _ _)
            replace hSr := Lib.hid hSr; replace hlowr := Lib.hid hlowr
            by_cases hc : k < sn
            · have hc1 : (k : Int) < sn := by omega
              have hk0 : (0 : Int) ≤ (k : Int) := by omega
              cases hcan : a.can
              · have hfit : ¬ Fit x.vs x.now x.bs a.fresh := fun h => by have := h.1; rw [show a.fresh.can = a.can from rfl, hcan] at this; cases this
                replace hcan := Lib.hid hcan
                have hst := hst2.out.2 hfit
                obtain ⟨b, off, rfl, hb, a0, hso⟩ := hs3.out.cell 0 s rfl
                have hb8r : Below w8.heap.size w8 wr := (hb9.out.trans (hb10.out.mono hb9.out.size)).trans (hbr.out.mono (Nat.le_trans hb9.out.size hb10.out.size))
                have s1 := (below_cell hb8r hb).trans (a0 1 (by omega))
                clear a0
                simp [hst] at s1
                have dd : ((-1 : Int) == x.now) = false := by simp; omega
                replace hfit := Lib.hid hfit; replace hso := Lib.hid hso; replace hst := Lib.hid hst; replace hb8r := Lib.hid hb8r
                go_wp2_with fail
                go_quiet (fail)
                go_wp2
                go_ret
                exact ⟨rfl, hlowr.out.trans (below_drewN _ _ _)⟩
              obtain ⟨m, hm⟩ : ∃ m, (plc x.bs a.pzs)[k]? = some m := ⟨_, List.getElem?_eq_getElem (by rw [hpl.out]; exact hc)⟩
              obtain ⟨hm1, _, _⟩ := mem_plc.1 (List.mem_of_getElem? hm)
              have hmv : m < x.vn := by
                have h1 := hlay.out.up
                have h2 := hS10.out.xok.vs.len
                omega
              have hmv1 : (m : Int) < x.vn := by omega
              have hmv0 : (0 : Int) ≤ (m : Int) := by omega
              obtain ⟨b, off, rfl, hb, g0⟩ := hz10.out.cell k hc
              rw [zi_ints hm] at g0
              obtain ⟨vb, voff, hvo, hvb, u0, u1, u2, u3⟩ := hS10.out.xok.vs.cell m hmv
              obtain ⟨v, hv⟩ : ∃ v, v = vv x.vs m := ⟨_, rfl⟩
              rw [← hv] at u0 u1 u2 u3
              have hleq : roomy x.vs a.v m = true ↔ a.v.a ≤ v.a ∧ a.v.b ≤ v.b ∧ a.v.c ≤ v.c ∧ a.v.d ≤ v.d := by unfold roomy; rw [fits_iff, hv]; rfl
              obtain ⟨e0, _, _, _, _⟩ := scene_cells hS10.out.xb
              have lx10 := blk_lt hS10.out.xb
              rw [hvo] at e0
              have hcur : Below w10.heap.size w10 wr.drew := hbr.out.drew
              have hS : Hid (∀ w' : World, Below w10.heap.size w10 w' → w'.cell? ⟨w.heap.size, 0, none⟩ = some (.slice (some ⟨vb, voff, none⟩) x.vn x.vc) ∧ w'.cell? ⟨b, off + k, none⟩ = some (.int .i64 m) ∧ w'.cell? ⟨vb, voff + m * 4, none⟩ = some (.int .i64 v.a) ∧ w'.cell? ⟨vb, voff + m * 4 + 1, none⟩ = some (.int .i64 v.b) ∧ w'.cell? ⟨vb, voff + m * 4 + 2, none⟩ = some (.int .i64 v.c) ∧ w'.cell? ⟨vb, voff + m * 4 + 3, none⟩ = some (.int .i64 v.d)) := fun w' h =>
                ⟨(below_cell h lx10).trans e0, (below_cell h hb).trans g0, (below_cell h hvb).trans u0, (below_cell h hvb).trans u1, (below_cell h hvb).trans u2, (below_cell h hvb).trans u3⟩
              have hcurA : ∀ o, Below w10.heap.size w10 (wr.alloc o).drew := fun o => (hbr.out.alloc hbr.out.size o).drew
              replace hv := Lib.hid hv; replace hleq := Lib.hid hleq; replace hvo := Lib.hid hvo; replace hcur := Lib.hid hcur; replace hm := Lib.hid hm; replace hm1 := Lib.hid hm1; replace hmv := Lib.hid hmv; replace hcan := Lib.hid hcan; replace hcurA := Lib.hid hcurA
              clear e0 g0 u0 u1 u2 u3 c0 c1 c2 c3 c4
              go_wp2_with fail
              go_region_held3 (fun w' => w'.cell? ⟨w.heap.size, 0, none⟩ = some (.slice (some ⟨vb, voff, none⟩) x.vn x.vc) ∧ w'.cell? ⟨b, off + k, none⟩ = some (.int .i64 m) ∧ w'.cell? ⟨vb, voff + m * 4, none⟩ = some (.int .i64 v.a) ∧ w'.cell? ⟨vb, voff + m * 4 + 1, none⟩ = some (.int .i64 v.b) ∧ w'.cell? ⟨vb, voff + m * 4 + 2, none⟩ = some (.int .i64 v.c) ∧ w'.cell? ⟨vb, voff + m * 4 + 3, none⟩ = some (.int .i64 v.d))
                (first
                  | with_reducible exact hS.out _ hcur.out
                  | with_reducible exact hS.out _ (hcurA.out _))
                (fail)
              have hbA := hcurA.out (.cells v.cells 23 (0, 0))
              replace hbA := Lib.hid hbA
              by_cases qa : a.v.a ≤ v.a
              rotate_left
              · have da : decide (a.v.a ≤ v.a) = false := by simpa using qa
                have hno : roomy x.vs a.v m = false := by
                  rw [Bool.eq_false_iff]; intro hh; obtain ⟨z1, z2, z3, z4⟩ := hleq.out.1 hh; exact qa (by assumption)
                have hcnt2 : cnt = ((plc x.bs a.pzs).take (k + 1)).countP (roomy x.vs a.v) := by rw [count_take hm.out, hno, hcnt.out]; rfl
                replace qa := Lib.hid qa; replace hno := Lib.hid hno; replace hcnt2 := Lib.hid hcnt2
                go_wp2
                go_roundw
                case rel => exact ⟨k + 1, cnt, by go_num, by omega, rfl, hcnt2.out, hbA.out⟩
                case measure => simp [intOf]; omega
              have da : decide (a.v.a ≤ v.a) = true := by simpa using qa
              by_cases qb : a.v.b ≤ v.b
              rotate_left
              · have db : decide (a.v.b ≤ v.b) = false := by simpa using qb
                have hno : roomy x.vs a.v m = false := by
                  rw [Bool.eq_false_iff]; intro hh; obtain ⟨z1, z2, z3, z4⟩ := hleq.out.1 hh; exact qb (by assumption)
                have hcnt2 : cnt = ((plc x.bs a.pzs).take (k + 1)).countP (roomy x.vs a.v) := by rw [count_take hm.out, hno, hcnt.out]; rfl
                replace qb := Lib.hid qb; replace hno := Lib.hid hno; replace hcnt2 := Lib.hid hcnt2
                go_wp2
                go_roundw
                case rel => exact ⟨k + 1, cnt, by go_num, by omega, rfl, hcnt2.out, hbA.out⟩
                case measure => simp [intOf]; omega
              have db : decide (a.v.b ≤ v.b) = true := by simpa using qb
              by_cases qc : a.v.c ≤ v.c
              rotate_left
              · have dc : decide (a.v.c ≤ v.c) = false := by simpa using qc
                have hno : roomy x.vs a.v m = false := by
                  rw [Bool.eq_false_iff]; intro hh; obtain ⟨z1, z2, z3, z4⟩ := hleq.out.1 hh; exact qc (by assumption)
                have hcnt2 : cnt = ((plc x.bs a.pzs).take (k + 1)).countP (roomy x.vs a.v) := by rw [count_take hm.out, hno, hcnt.out]; rfl
                replace qc := Lib.hid qc; replace hno := Lib.hid hno; replace hcnt2 := Lib.hid hcnt2
                go_wp2
                go_roundw
                case rel => exact ⟨k + 1, cnt, by go_num, by omega, rfl, hcnt2.out, hbA.out⟩
                case measure => simp [intOf]; omega
              have dc : decide (a.v.c ≤ v.c) = true := by simpa using qc
              by_cases qd : a.v.d ≤ v.d
              rotate_left
              · have de : decide (a.v.d ≤ v.d) = false := by simpa using qd
                have hno : roomy x.vs a.v m = false := by
                  rw [Bool.eq_false_iff]; intro hh; obtain ⟨z1, z2, z3, z4⟩ := hleq.out.1 hh; exact qd (by assumption)
                have hcnt2 : cnt = ((plc x.bs a.pzs).take (k + 1)).countP (roomy x.vs a.v) := by rw [count_take hm.out, hno, hcnt.out]; rfl
                replace qd := Lib.hid qd; replace hno := Lib.hid hno; replace hcnt2 := Lib.hid hcnt2
                go_wp2
                go_roundw
                case rel => exact ⟨k + 1, cnt, by go_num, by omega, rfl, hcnt2.out, hbA.out⟩
                case measure => simp [intOf]; omega
              have de : decide (a.v.d ≤ v.d) = true := by simpa using qd
              have hyes : roomy x.vs a.v m = true := hleq.out.2 ⟨qa, qb, qc, qd⟩
              have hcnt2 : cnt + 1 = ((plc x.bs a.pzs).take (k + 1)).countP (roomy x.vs a.v) := by rw [count_take hm.out, hyes, hcnt.out]; rfl
              replace qa := Lib.hid qa; replace qb := Lib.hid qb; replace qc := Lib.hid qc; replace qd := Lib.hid qd; replace hyes := Lib.hid hyes; replace hcnt2 := Lib.hid hcnt2
              go_wp2
              go_roundw
              case rel => exact ⟨k + 1, cnt + 1, by go_num, by omega, by go_num, hcnt2.out, hbA.out⟩
              case measure => simp [intOf]; omega
            · have hc1 : ¬ (k : Int) < sn := by omega
              cases hcan : a.can
              · have hfit : ¬ Fit x.vs x.now x.bs a.fresh := fun h => by have := h.1; rw [show a.fresh.can = a.can from rfl, hcan] at this; cases this
                replace hcan := Lib.hid hcan
                have hst := hst2.out.2 hfit
                obtain ⟨b, off, rfl, hb, a0, hso⟩ := hs3.out.cell 0 s rfl
                have hb8r : Below w8.heap.size w8 wr := (hb9.out.trans (hb10.out.mono hb9.out.size)).trans (hbr.out.mono (Nat.le_trans hb9.out.size hb10.out.size))
                have s1 := (below_cell hb8r hb).trans (a0 1 (by omega))
                clear a0
                simp [hst] at s1
                have dd : ((-1 : Int) == x.now) = false := by simp; omega
                replace hfit := Lib.hid hfit; replace hso := Lib.hid hso; replace hst := Lib.hid hst; replace hb8r := Lib.hid hb8r
                go_wp2_with fail
                go_quiet (fail)
                go_wp2
                go_ret
                exact ⟨rfl, hlowr.out.trans (below_drewN _ _ _)⟩
              have hrooms : rooms x.vs x.bs a.fresh = cnt := by
                rw [hcnt.out, List.take_of_length_le (by rw [hpl.out]; omega)]; rfl
              by_cases q1 : a.nodes ≤ cnt
              rotate_left
              · have d5 : decide (a.nodes ≤ (cnt : Int)) = false := by simpa using q1
                have hfit : ¬ Fit x.vs x.now x.bs a.fresh := fun h => q1 (by rw [← hrooms]; exact h.2.1)
                replace hcan := Lib.hid hcan; replace hrooms := Lib.hid hrooms; replace q1 := Lib.hid q1
                have hst := hst2.out.2 hfit
                obtain ⟨b, off, rfl, hb, a0, hso⟩ := hs3.out.cell 0 s rfl
                have hb8r : Below w8.heap.size w8 wr := (hb9.out.trans (hb10.out.mono hb9.out.size)).trans (hbr.out.mono (Nat.le_trans hb9.out.size hb10.out.size))
                have s1 := (below_cell hb8r hb).trans (a0 1 (by omega))
                clear a0
                simp [hst] at s1
                have dd : ((-1 : Int) == x.now) = false := by simp; omega
                replace hfit := Lib.hid hfit; replace hso := Lib.hid hso; replace hst := Lib.hid hst; replace hb8r := Lib.hid hb8r
                go_wp2_with fail
                go_quiet (fail)
                go_wp2
                go_ret
                exact ⟨rfl, hlowr.out.trans (below_drewN _ _ _)⟩
              have d5 : decide (a.nodes ≤ (cnt : Int)) = true := by simpa using q1
              have ew : IntKind.i64.wrap (1099511627776 - x.now) = 1099511627776 - x.now := IntWalk.i64_in _ (by omega)
              by_cases q2 : a.ticks ≤ 1099511627776 - x.now
              rotate_left
              · have d6 : decide (a.ticks ≤ 1099511627776 - x.now) = false := by simpa using q2
                have hfit : ¬ Fit x.vs x.now x.bs a.fresh := fun h => q2 h.2.2
                replace hcan := Lib.hid hcan; replace hrooms := Lib.hid hrooms; replace q1 := Lib.hid q1; replace q2 := Lib.hid q2
                have hst := hst2.out.2 hfit
                obtain ⟨b, off, rfl, hb, a0, hso⟩ := hs3.out.cell 0 s rfl
                have hb8r : Below w8.heap.size w8 wr := (hb9.out.trans (hb10.out.mono hb9.out.size)).trans (hbr.out.mono (Nat.le_trans hb9.out.size hb10.out.size))
                have s1 := (below_cell hb8r hb).trans (a0 1 (by omega))
                clear a0
                simp [hst] at s1
                have dd : ((-1 : Int) == x.now) = false := by simp; omega
                replace hfit := Lib.hid hfit; replace hso := Lib.hid hso; replace hst := Lib.hid hst; replace hb8r := Lib.hid hb8r
                go_wp2_with fail
                go_quiet (fail)
                go_wp2
                go_ret
                exact ⟨rfl, hlowr.out.trans (below_drewN _ _ _)⟩
              have d6 : decide (a.ticks ≤ 1099511627776 - x.now) = true := by simpa using q2
              have hfit : Fit x.vs x.now x.bs a.fresh := ⟨hcan, by rw [hrooms]; exact q1, q2⟩
              have hst := hst1.out.2 hfit
              obtain ⟨b, off, rfl, hb, a0, hso⟩ := hs3.out.cell 0 s rfl
              have hb8r : Below w8.heap.size w8 wr := (hb9.out.trans (hb10.out.mono hb9.out.size)).trans (hbr.out.mono (Nat.le_trans hb9.out.size hb10.out.size))
              have s1 := (below_cell hb8r hb).trans (a0 1 (by omega))
              clear a0
              simp [hst] at s1
              have dd : (x.now == (-1 : Int)) = false := by simp; omega
              have dd2 : (x.now == x.now) = true := by simp
              replace hfit := Lib.hid hfit; replace hso := Lib.hid hso; replace hst := Lib.hid hst; replace hb8r := Lib.hid hb8r; replace hcan := Lib.hid hcan; replace hrooms := Lib.hid hrooms; replace q1 := Lib.hid q1; replace q2 := Lib.hid q2
              go_wp2_with fail
              go_quiet (fail)
              go_wp2
              go_ret
              exact ⟨rfl, hlowr.out.trans (below_drewN _ _ _)⟩
end Go.Proofs.Ytpjajiambbobhaa
