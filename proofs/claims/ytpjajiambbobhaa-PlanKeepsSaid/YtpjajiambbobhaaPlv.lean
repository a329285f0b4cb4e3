/- corveelaw12.PlanKeeps answers true. -/
import Derived.Test.YtpjajiambbobhaaPlu
namespace Go.Proofs.Ytpjajiambbobhaa
open Go.ChangeShapes Go.WideShapes Go.ChangeAt Go.RowKit

theorem Try.c86 : Try.prog.cellsOf 86 = 15 := by kernel_rfl
section
variable {H : Type} {enc : TypeId × Value → H} {w : World} {held : Bool} {fuel : Nat} {cs : List Value} {x : DataW H × List MemPlace}
theorem list15 {α : Type} {l : List α} (h : l.length = 15) : ∃ a b c d e f g i j k m n o p q, l = [a, b, c, d, e, f, g, i, j, k, m, n, o, p, q] := by
  match l, h with
  | [a, b, c, d, e, f, g, i, j, k, m, n, o, p, q], _ => exact ⟨a, b, c, d, e, f, g, i, j, k, m, n, o, p, q, rfl⟩
theorem later_of_trod (h : DataW.trod enc Try.prog w 0 (fun _ => true) held fuel 86 cs = some x) : ∃ a : Later, cs = a.cells.toList ∧ a.ok w := by
  obtain ⟨xs, n, _, rfl, hl, hlen, hf⟩ := DataW.trod_struct Try.underlying86 h
  rw [Try.c86] at hl
  obtain ⟨c0, c1, c2, c3, c4, c5, c6, c7, c8, c9, c10, c11, c12, c13, c14, rfl⟩ := list15 hl
  match xs, hlen with
  | [y0, y1, y2, y3, y4, y5], _ =>
    have h0 := hf 0 _ rfl; have h1 := hf 1 _ rfl; have h2 := hf 2 _ rfl; have h3 := hf 3 _ rfl; have h4 := hf 4 _ rfl; have h5 := hf 5 _ rfl
    simp [Try.c3, Try.c84, Try.c48] at h0 h1 h2 h3 h4 h5
    obtain ⟨n0, e0, _⟩ := DataW.trod_int Try.underlying3 h0
    obtain ⟨eo, em, ec, ez, rfl, hz, _⟩ := ints_of_trod h1
    obtain ⟨n2, e2, _⟩ := DataW.trod_int Try.underlying3 h2
    obtain ⟨a, ea, hao⟩ := ask_of_trod h3
    obtain ⟨n4, e4, _⟩ := DataW.trod_int Try.underlying3 h4
    obtain ⟨n5, e5, _⟩ := DataW.trod_int Try.underlying3 h5
    simp at e0 e2 ea e4 e5
    obtain ⟨rfl, rfl, rfl, rfl, rfl, rfl, rfl, rfl, rfl, rfl⟩ := ea
    subst e0; subst e2; subst e4; subst e5
    exact ⟨⟨n0, eo, em, ec, ez, n2, a, n4, n5⟩, rfl, hz, hao⟩
end
section
variable {H : Type} {enc : TypeId × Value → H} {w : World} {held : Bool} {b0 : Nat} {r : Reach} {v : Value} {d : DataW H} {p : List MemPlace}
set_option maxRecDepth 100000 in
theorem open_later (hv : Value.okWide Try.prog w r b0 86 v) (h : DataW.Trod enc Try.prog w 0 (fun _ => true) held 86 v d p) : ∃ a : Later, v = a.val ∧ a.ok w := by
  obtain ⟨cs, rfl, _⟩ := okWide_struct Try.underlying86 hv
  obtain ⟨fuel, hf⟩ := h
  obtain ⟨a, e, h1⟩ := later_of_trod hf
  refine ⟨a, ?_, h1⟩
  cases cs
  simp [Value.cells] at e
  simp [e]
end
theorem again_mem {asks : List Ask} {slots : List Slot} {y : Ask} (h : y ∈ againL asks slots) : ∃ a s, a ∈ asks ∧ s ∈ slots ∧ y = a.but s := by
  obtain ⟨x, hx, rfl⟩ := List.mem_map.1 h
  obtain ⟨h1, h2⟩ := List.of_mem_zip (a := x.1) (b := x.2) hx
  exact ⟨x.1, x.2, h1, h2, rfl⟩
theorem rows_ok {α : Type} {cells : α → Array Value} {sz : Nat} {ok : World → α → Prop} {w : World} {ao : Option Addr} {n : Nat} {xs : List α} (h : RowsAt cells sz ok w ao n xs) {x : α} (hx : x ∈ xs) : ok w x := by
  obtain ⟨i, hi⟩ := List.mem_iff_getElem?.1 hx
  obtain ⟨_, _, _, _, _, ho⟩ := h.cell i x hi
  exact ho

set_option maxRecDepth 100000 in
set_option maxHeartbeats 12800000 in
theorem pkeeps_any (x : Scene) (l : Later) (w : World) (hxk : x.ok w) (hlk : l.ok w) : Calls Try.prog 14 #[x.val, l.val] w fun e w' => e = .returned (.bool true) ∧ Below w.heap.size w w' := by
  have hS0 := SB.new hxk hlk
  replace hxk := Lib.hid hxk; replace hlk := Lib.hid hlk; replace hS0 := Lib.hid hS0
  go_enter Try.func14, Try.ntmps14
  go_wp2_with fail
  refine (pawake_any _).mono ?_
  rintro e w1 ⟨rfl, hb1⟩
  have hS1 := hS0.out.below hb1
  obtain ⟨c0, c1, c2, c3, c4⟩ := scene_cells hS1.xb
  have lx := blk_lt hS1.xb
  have hfew := few_any x w1 hS1.xok
  replace hS1 := Lib.hid hS1; replace hb1 := Lib.hid hb1; replace hfew := Lib.hid hfew
  go_wp2_with fail
  refine hfew.out.mono ?_
  rintro e w2 ⟨bf, rfl, hbf, hb2⟩
  have hS2 := hS1.out.below hb2
  clear c0 c1 c2 c3 c4 lx
  obtain ⟨c0, c1, c2, c3, c4⟩ := scene_cells hS2.xb
  have lx := blk_lt hS2.xb
  obtain ⟨y0, y1, y2, y3, y4, y5, y6, y7, y8, y9, y10, y11, y12, y13, y14⟩ := later_cells hS2.lb
  have ly := blk_lt hS2.lb
  have hlow2 := hS2.low
  replace hS2 := Lib.hid hS2; replace hb2 := Lib.hid hb2; replace hlow2 := Lib.hid hlow2
  cases bf with
  | false =>
    clear hbf
    go_wp2
    go_ret
    exact ⟨rfl, hlow2.out⟩
  | true =>
  have hfw := hbf rfl
  clear hbf
  by_cases p0 : 20 < l.en
  · have d1 : decide (20 < (l.en : Int)) = true := by simp; omega
    have d2 : decide (20 < l.en) = true := by simp; omega
    replace hfw := Lib.hid hfw; replace p0 := Lib.hid p0
    go_wp2
    go_ret
    exact ⟨rfl, hlow2.out⟩
  have d1 : decide (20 < (l.en : Int)) = false := by simp; omega
  have d2 : decide (20 < l.en) = false := by simp; omega
  by_cases p1 : 30 < l.comes.pn
  · have d3 : decide (30 < (l.comes.pn : Int)) = true := by simp; omega
    have d4 : decide (30 < l.comes.pn) = true := by simp; omega
    replace hfw := Lib.hid hfw; replace p0 := Lib.hid p0; replace p1 := Lib.hid p1
    go_wp2
    go_ret
    exact ⟨rfl, hlow2.out⟩
  have d3 : decide (30 < (l.comes.pn : Int)) = false := by simp; omega
  have d4 : decide (30 < l.comes.pn) = false := by simp; omega
  by_cases p2 : 20 < l.comes.gn
  · have d5 : decide (20 < (l.comes.gn : Int)) = true := by simp; omega
    have d6 : decide (20 < l.comes.gn) = true := by simp; omega
    replace hfw := Lib.hid hfw; replace p0 := Lib.hid p0; replace p1 := Lib.hid p1; replace p2 := Lib.hid p2
    go_wp2
    go_ret
    exact ⟨rfl, hlow2.out⟩
  have d5 : decide (20 < (l.comes.gn : Int)) = false := by simp; omega
  have d6 : decide (20 < l.comes.gn) = false := by simp; omega
  have han := hfw.an
  have hhn := hfw.hn
  have hal := hS2.out.xok.asks.len
  have hpass := pass_any x.vo x.uo x.ho x.ao x.vn x.vc x.un x.uc x.hn x.hc x.an x.ac x.vs x.bs x.now x.hs x.asks w2 hS2.out.xok.vs hS2.out.xok.up hS2.out.xok.holds hS2.out.xok.asks (by omega)
  replace hpass := Lib.hid hpass; replace hfw := Lib.hid hfw; replace p0 := Lib.hid p0; replace p1 := Lib.hid p1; replace p2 := Lib.hid p2; replace hal := Lib.hid hal
  go_wp2_with fail
  refine hpass.out.mono ?_
  rintro e w3 ⟨hb3, ⟨r, hr, rfl, hL⟩ | ⟨so, sc, slots, he, hp, hs, hsc, hfr, hfr2⟩⟩
  · have dr : (r != 0) = true := by simpa using hr
    have hlow3 := hlow2.out.trans (hb3.mono hlow2.out.size)
    replace hlow3 := Lib.hid hlow3; replace hr := Lib.hid hr; replace hL := Lib.hid hL; replace hb3 := Lib.hid hb3
    go_wp2
    go_ret
    exact ⟨rfl, hlow3.out⟩
  rw [hal.out] at he hs hsc
  subst he
  have hpo := pass_ok hp
  have hS3 := hS2.out.below hb3
  have hlow3 := hS3.low
  clear c0 c1 c2 c3 c4 lx y0 y1 y2 y3 y4 y5 y6 y7 y8 y9 y10 y11 y12 y13 y14 ly
  obtain ⟨c0, c1, c2, c3, c4⟩ := scene_cells hS3.xb
  have lx := blk_lt hS3.xb
  obtain ⟨y0, y1, y2, y3, y4, y5, y6, y7, y8, y9, y10, y11, y12, y13, y14⟩ := later_cells hS3.lb
  have ly := blk_lt hS3.lb
  have hnow0 := hpo.lay.lo
  have hnow1 := hpo.lay.hi
  have dl : ((x.an : Int) != (x.an : Int)) = false := by simp
  have hG := and15 l.ticks
  obtain ⟨G, hGe⟩ : ∃ G, G = l.ticks % 16 := ⟨_, rfl⟩
  rw [← hGe] at hG
  have hG0 : 0 ≤ G := by omega
  have hG1 : G ≤ 15 := by omega
  have hsl := hs.len
  replace hb3 := Lib.hid hb3; replace hp := Lib.hid hp; replace hs := Lib.hid hs; replace hsc := Lib.hid hsc; replace hfr := Lib.hid hfr; replace hfr2 := Lib.hid hfr2; replace hpo := Lib.hid hpo; replace hS3 := Lib.hid hS3; replace hlow3 := Lib.hid hlow3; replace hGe := Lib.hid hGe; replace hsl := Lib.hid hsl
  go_wp2
  clear hG
  go_loopw [9, 10] (fun m i wr => ∃ (k : Nat) (M : Int), i = .int .i64 k ∧ m = .int .i64 M ∧ k ≤ x.an ∧ x.now ≤ M ∧ M ≤ x.now + 15 ∧ Hid (∀ (j : Nat) (s : Slot), j < k → slots[j]? = some s → 0 ≤ s.start → M ≤ s.start) ∧ w3 = wr) (fun _ i _ => x.an - (intOf i).toNat)
  case atStart => exact ⟨0, x.now + G, rfl, by go_num, Nat.zero_le _, by omega, by omega, (fun j s hj => by omega), rfl⟩
  case round =>
    obtain ⟨k, M, rfl, rfl, hk, hM0, hM1, hall, rfl⟩ := hrel
    by_cases hc : k < x.an
    · have hc1 : (k : Int) < x.an := by omega
      have hk0 : (0 : Int) ≤ (k : Int) := by omega
      obtain ⟨s, hsx⟩ := hs.out.get hc
      obtain ⟨b, off, rfl, hb, a0, hso⟩ := hs.out.cell k s hsx
      have s1 := a0 1 (by omega)
      simp at s1
      clear a0
      by_cases q5 : 0 ≤ s.start
      · have dq : decide (0 ≤ s.start) = true := by simpa using q5
        obtain ⟨M2, hM2⟩ : ∃ M2, M2 = if s.start < M then s.start else M := ⟨_, rfl⟩
        have hst : x.now ≤ s.start := by
          obtain ⟨a, ha⟩ : ∃ a, x.asks[k]? = some a := hS3.out.xok.asks.get hc
          have hz : (x.asks.zip slots)[k]? = some (a, s) := by rw [List.getElem?_zip_eq_some]; exact ⟨ha, hsx⟩
          rcases (hpo.out.slot _ (List.mem_of_getElem? hz)).2 with ⟨c, _⟩ | ⟨_, c, _⟩
          · have c' : s.start = -1 := c
            omega
          · exact c
        have hn : ∀ (j : Nat) (t : Slot), j < k + 1 → slots[j]? = some t → 0 ≤ t.start → M2 ≤ t.start := fun j t hj ht h0 => by
          by_cases e : j = k
          · subst e; rw [hsx] at ht; cases ht; rw [hM2]; split <;> omega
          · have := hall.out j t (by omega) ht h0
            rw [hM2]; split <;> omega
        have hM3 : x.now ≤ M2 ∧ M2 ≤ x.now + 15 := by rw [hM2]; split <;> omega
        have hM2' := hM2.symm
        replace hsx := Lib.hid hsx; replace hso := Lib.hid hso; replace q5 := Lib.hid q5; replace hst := Lib.hid hst; replace hn := Lib.hid hn; replace hM3 := Lib.hid hM3; replace hM2 := Lib.hid hM2
        go_wp2
        go_roundw
        case rel => exact ⟨k + 1, M2, by go_num, by go_num, by omega, hM3.out.1, hM3.out.2, hn.out, trivial⟩
        case measure => simp [intOf]; omega
      · have dq : decide (0 ≤ s.start) = false := by simpa using q5
        have hn : ∀ (j : Nat) (t : Slot), j < k + 1 → slots[j]? = some t → 0 ≤ t.start → M ≤ t.start := fun j t hj ht h0 => by
          by_cases e : j = k
          · subst e; rw [hsx] at ht; cases ht; omega
          · exact hall.out j t (by omega) ht h0
        replace hsx := Lib.hid hsx; replace hso := Lib.hid hso; replace q5 := Lib.hid q5; replace hn := Lib.hid hn
        go_wp2
        go_roundw
        case rel => exact ⟨k + 1, M, by go_num, rfl, by omega, hM0, hM1, hn.out, trivial⟩
        case measure => simp [intOf]; omega
    · have hc1 : ¬ (k : Int) < x.an := by omega
      by_cases qM : 1099511627776 ≤ M
      · have dM : decide (1099511627776 ≤ M) = true := by simpa using qM
        replace qM := Lib.hid qM
        go_wp2
        go_ret
        exact ⟨rfl, hlow3.out⟩
      have dM : decide (1099511627776 ≤ M) = false := by simpa using qM
      have hmx := mixed_any x l so sc slots w3 hS3.out.xok hS3.out.lok hs.out han
      replace qM := Lib.hid qM; replace hmx := Lib.hid hmx
      go_wp2_with fail
      refine hmx.out.mono ?_
      rintro e w4 ⟨sv, A, B, MM, c, rfl, hR, hcs, hc1', hc2, hc3, hc4, hc5, hc6, hc7, hc8, hper, hAB, hb4⟩
      obtain ⟨g, cap, rfl⟩ := Joins.ownsRow_form hR (by simp; omega)
      have hS4 := hS3.out.below hb4
      have hlow4 := hS4.low
      clear c0 c1 c2 c3 c4 lx y0 y1 y2 y3 y4 y5 y6 y7 y8 y9 y10 y11 y12 y13 y14 ly
      obtain ⟨c0, c1, c2, c3, c4⟩ := scene_cells hS4.xb
      have lx4 := blk_lt hS4.xb
      obtain ⟨y0, y1, y2, y3, y4, y5, y6, y7, y8, y9, y10, y11, y12, y13, y14⟩ := later_cells hS4.lb
      have ly4 := blk_lt hS4.lb
      have hleast : ∀ s, s ∈ slots → 0 ≤ s.start → M ≤ s.start := fun s hm h0 => by
        obtain ⟨j, hj⟩ := List.mem_iff_getElem?.1 hm
        exact hall.out j s (by have := (List.getElem?_eq_some_iff.1 hj).1; have := hsl.out; omega) hj h0
      have hlaw := fun hs2 (he : Ends x.now M x.hs hs2) => keeps_law hp.out hM0 (by have := qM.out; omega) hleast he hcs hper
      obtain ⟨all, hall2⟩ : ∃ all, all = A ++ c :: B := ⟨_, rfl⟩
      obtain ⟨nA, hnA⟩ : ∃ nA, nA = all.length := ⟨_, rfl⟩
      have hnA11 : nA ≤ 11 := by rw [hnA, hall2]; simp at hAB ⊢; omega
      have hAl : A.length < nA := by rw [hnA, hall2]; simp
      have hokA : ∀ y, y ∈ all → Ask.ok w4 y := fun y hy => by
        have hag : y ∈ againL x.asks slots → Ask.ok w4 y := fun h => by
          obtain ⟨a, s, ha, hs', rfl⟩ := again_mem h
          have h1 := rows_ok hS3.out.xok.asks ha
          have h2 := rows_ok hs.out hs'
          exact Ask.ok.below' (w := w3) ⟨h1.places, h1.ple, h2.gang, h2.gle⟩ hb4
        rw [hall2] at hy
        rcases List.mem_append.1 hy with hy | hy
        · exact hag (hper.mem_iff.1 (by simp [hy]))
        · rcases List.mem_cons.1 hy with rfl | hy
          · have h1 := hS4.lok.comes
            exact ⟨by rw [hc5, hc6, hc8]; exact h1.places, by rw [hc6, hc7]; exact h1.ple, by rw [hc1', hc2, hc4]; exact ints_none _, by rw [hc2, hc3]; exact Nat.le_refl _⟩
          · exact hag (hper.mem_iff.1 (by simp [hy]))
      have hR' : w4.ownsRow w3.heap.size 84 10 (.slice (some ⟨g, 0, none⟩) nA cap) nA (flatv Ask.cells all) := by rw [hnA, hall2]; exact hR
      have hAA := rows_of_own (cells := Ask.cells) (sz := 10) (ok := fun w a => Ask.ok w a) (fun _ => rfl) hR' hnA.symm (by omega) hokA
      rw [← hall2] at hlaw
      have hlen4 : (A ++ c :: B).length = nA := by rw [hnA, hall2]
      rw [hlen4]
      have hen := ended_any x l M w4.drew (hS4.xok.below (Below.refl _ _).drew) (hS4.lok.below (Below.refl _ _).drew) hnow0 hnow1 hhn
      have hps : ∀ ho n cp xs W', Below w4.heap.size w4 W' → HoldsAt W' ho n xs → Calls Try.prog 49 #[.slice x.vo x.vn x.vc, .slice x.uo x.un x.uc, .int .i64 M, .slice ho n cp, .slice (some ⟨g, 0, none⟩) nA cap] W' (PassU x.vs M x.bs xs all W') :=
        fun ho n cp xs W' h hh => passu_any x.vo x.uo ho (some ⟨g, 0, none⟩) x.vn x.vc x.un x.uc n cp nA cap x.vs x.bs M xs all W' (hS4.xok.vs.below h (Nat.le_refl _)) (hS4.xok.up.below h (Nat.le_refl _)) hh (hAA.below h (fun _ ho => ho.below' h)) (by omega)
      have hcur : Below w4.heap.size w4 w4.drew := (Below.refl _ _).drew
      have hSS : Hid (∀ w' : World, Below w4.heap.size w4 w' → w'.cell? ⟨w.heap.size, 0, none⟩ = some (.slice x.vo x.vn x.vc) ∧ w'.cell? ⟨w.heap.size, 1, none⟩ = some (.slice x.uo x.un x.uc) ∧ w'.cell? ⟨w.heap.size, 2, none⟩ = some (.int .i64 x.now) ∧ w'.cell? ⟨w.heap.size, 3, none⟩ = some (.slice x.ho x.hn x.hc) ∧ w'.cell? ⟨w.heap.size, 4, none⟩ = some (.slice x.ao x.an x.ac) ∧ w'.cell? ⟨w.heap.size + 1, 0, none⟩ = some (.int .i64 l.ticks) ∧ w'.cell? ⟨w.heap.size + 1, 1, none⟩ = some (.slice l.eo l.en l.ec) ∧ w'.cell? ⟨w.heap.size + 1, 2, none⟩ = some (.int .i64 l.goes) ∧ w'.cell? ⟨w.heap.size + 1, 3, none⟩ = some (.int .i64 l.comes.id) ∧ w'.cell? ⟨w.heap.size + 1, 4, none⟩ = some (.slice l.comes.po l.comes.pn l.comes.pc) ∧ w'.cell? ⟨w.heap.size + 1, 5, none⟩ = some (.int .i64 l.comes.nodes) ∧ w'.cell? ⟨w.heap.size + 1, 6, none⟩ = some (.int .i64 l.comes.v.a) ∧ w'.cell? ⟨w.heap.size + 1, 7, none⟩ = some (.int .i64 l.comes.v.b) ∧ w'.cell? ⟨w.heap.size + 1, 8, none⟩ = some (.int .i64 l.comes.v.c) ∧ w'.cell? ⟨w.heap.size + 1, 9, none⟩ = some (.int .i64 l.comes.v.d) ∧ w'.cell? ⟨w.heap.size + 1, 10, none⟩ = some (.int .i64 l.comes.ticks) ∧ w'.cell? ⟨w.heap.size + 1, 11, none⟩ = some (.int .i64 l.comes.start) ∧ w'.cell? ⟨w.heap.size + 1, 12, none⟩ = some (.slice l.comes.go l.comes.gn l.comes.gc) ∧ w'.cell? ⟨w.heap.size + 1, 13, none⟩ = some (.int .i64 l.at_) ∧ w'.cell? ⟨w.heap.size + 1, 14, none⟩ = some (.int .i64 l.turn)) := fun w' h' => ⟨(below_cell h' lx4).trans c0, (below_cell h' lx4).trans c1, (below_cell h' lx4).trans c2, (below_cell h' lx4).trans c3, (below_cell h' lx4).trans c4, (below_cell h' ly4).trans y0, (below_cell h' ly4).trans y1, (below_cell h' ly4).trans y2, (below_cell h' ly4).trans y3, (below_cell h' ly4).trans y4, (below_cell h' ly4).trans y5, (below_cell h' ly4).trans y6, (below_cell h' ly4).trans y7, (below_cell h' ly4).trans y8, (below_cell h' ly4).trans y9, (below_cell h' ly4).trans y10, (below_cell h' ly4).trans y11, (below_cell h' ly4).trans y12, (below_cell h' ly4).trans y13, (below_cell h' ly4).trans y14⟩
      replace hR := Lib.hid hR; replace hcs := Lib.hid hcs; replace hc1' := Lib.hid hc1'; replace hc2 := Lib.hid hc2; replace hc3 := Lib.hid hc3; replace hc4 := Lib.hid hc4; replace hc5 := Lib.hid hc5; replace hc6 := Lib.hid hc6; replace hc7 := Lib.hid hc7; replace hc8 := Lib.hid hc8; replace hper := Lib.hid hper; replace hAB := Lib.hid hAB; replace hb4 := Lib.hid hb4; replace hS4 := Lib.hid hS4; replace hlow4 := Lib.hid hlow4; replace hleast := Lib.hid hleast; replace hlaw := Lib.hid hlaw; replace hokA := Lib.hid hokA; replace hR' := Lib.hid hR'; replace hAA := Lib.hid hAA; replace hen := Lib.hid hen; replace hps := Lib.hid hps; replace hcur := Lib.hid hcur; replace hall2 := Lib.hid hall2; replace hnA := Lib.hid hnA; replace hlen4 := Lib.hid hlen4
      clear c0 c1 c2 c3 c4 y0 y1 y2 y3 y4 y5 y6 y7 y8 y9 y10 y11 y12 y13 y14
      go_wp2_with fail
      go_region_held3 (fun w' => w'.cell? ⟨w.heap.size, 0, none⟩ = some (.slice x.vo x.vn x.vc) ∧ w'.cell? ⟨w.heap.size, 1, none⟩ = some (.slice x.uo x.un x.uc) ∧ w'.cell? ⟨w.heap.size, 2, none⟩ = some (.int .i64 x.now) ∧ w'.cell? ⟨w.heap.size, 3, none⟩ = some (.slice x.ho x.hn x.hc) ∧ w'.cell? ⟨w.heap.size, 4, none⟩ = some (.slice x.ao x.an x.ac) ∧ w'.cell? ⟨w.heap.size + 1, 0, none⟩ = some (.int .i64 l.ticks) ∧ w'.cell? ⟨w.heap.size + 1, 1, none⟩ = some (.slice l.eo l.en l.ec) ∧ w'.cell? ⟨w.heap.size + 1, 2, none⟩ = some (.int .i64 l.goes) ∧ w'.cell? ⟨w.heap.size + 1, 3, none⟩ = some (.int .i64 l.comes.id) ∧ w'.cell? ⟨w.heap.size + 1, 4, none⟩ = some (.slice l.comes.po l.comes.pn l.comes.pc) ∧ w'.cell? ⟨w.heap.size + 1, 5, none⟩ = some (.int .i64 l.comes.nodes) ∧ w'.cell? ⟨w.heap.size + 1, 6, none⟩ = some (.int .i64 l.comes.v.a) ∧ w'.cell? ⟨w.heap.size + 1, 7, none⟩ = some (.int .i64 l.comes.v.b) ∧ w'.cell? ⟨w.heap.size + 1, 8, none⟩ = some (.int .i64 l.comes.v.c) ∧ w'.cell? ⟨w.heap.size + 1, 9, none⟩ = some (.int .i64 l.comes.v.d) ∧ w'.cell? ⟨w.heap.size + 1, 10, none⟩ = some (.int .i64 l.comes.ticks) ∧ w'.cell? ⟨w.heap.size + 1, 11, none⟩ = some (.int .i64 l.comes.start) ∧ w'.cell? ⟨w.heap.size + 1, 12, none⟩ = some (.slice l.comes.go l.comes.gn l.comes.gc) ∧ w'.cell? ⟨w.heap.size + 1, 13, none⟩ = some (.int .i64 l.at_) ∧ w'.cell? ⟨w.heap.size + 1, 14, none⟩ = some (.int .i64 l.turn))
        (first
          | with_reducible exact hSS.out _ hcur.out)
        (first
          | (go_at_call 53
             refine hen.out.mono ?_
             rintro e w5 ⟨ho5, n5, c5, xs5, rfl, hh5, hE5, hb5⟩
             replace hcur := Lib.hid (hcur.out.trans (hb5.mono hcur.out.size))
             replace hh5 := Lib.hid hh5; replace hE5 := Lib.hid hE5; replace hb5 := Lib.hid hb5)
          | (go_at_call 49
             refine (hps.out _ _ _ _ _ hcur.out hh5.out).mono ?_
             rintro e w6 ⟨so6, n6, sc6, sl6, r6, rfl, hs6, hr6, hb6, _, _, _⟩
             replace hcur := Lib.hid (hcur.out.trans (hb6.mono hcur.out.size))
             replace hs6 := Lib.hid hs6; replace hr6 := Lib.hid hr6; replace hb6 := Lib.hid hb6))
      have hlow6 := hlow4.out.trans (hcur.out.mono hlow4.out.size)
      obtain ⟨k1, k2⟩ := hlaw.out xs5 hE5.out
      have hr0 : r6 = 0 := by
        rcases hr6.out with ⟨h, _, hL⟩ | ⟨h, _⟩
        · exact k1 _ _ hL
        · exact h
      subst hr0
      have hpr : n6 = nA ∧ PassRel x.vs M x.bs xs5 all sl6 := by
        rcases hr6.out with ⟨h, _⟩ | ⟨_, h1, h2⟩
        · exact absurd rfl h
        · exact ⟨by rw [h1, hnA.out], h2⟩
      obtain ⟨hn6, hp6⟩ := hpr
      subst hn6
      have hke := k2 sl6 hp6
      have dn : ((n6 : Int) != (n6 : Int)) = false := by simp
      have hAA6 := hAA.out.below hcur.out (fun _ ho => ho.below' hcur.out)
      have hAll : all.length = n6 := hnA.out.symm
      replace hlow6 := Lib.hid hlow6; replace hp6 := Lib.hid hp6; replace hke := Lib.hid hke; replace hAA6 := Lib.hid hAA6; replace k1 := Lib.hid k1; replace k2 := Lib.hid k2; replace hAll := Lib.hid hAll
      go_wp2
      go_loopw [15] (fun i wr => ∃ k : Nat, i = .int .i64 k ∧ k ≤ n6 ∧ Hid (Below w6.heap.size w6 wr)) (fun i _ => n6 - (intOf i).toNat)
      case atStart => exact ⟨0, rfl, Nat.zero_le _, Below.refl _ _⟩
      case round =>
        clear hk hc hc1
        obtain ⟨k, rfl, hk, hbr⟩ := hrel
        by_cases hc : k < n6
        · have hc1 : (k : Int) < n6 := by omega
          have hk0 : (0 : Int) ≤ (k : Int) := by omega
          obtain ⟨y, hyx⟩ := hAA6.out.get hc
          obtain ⟨b, off, hgo, hb, a0, _⟩ := hAA6.out.cell k y hyx
          cases hgo
          have s8 := (below_cell hbr.out hb).trans (a0 8 (by omega))
          simp at s8
          clear a0
          obtain ⟨s, hsx⟩ := hs6.out.get hc
          obtain ⟨b', off', rfl, hb', a0, _⟩ := hs6.out.cell k s hsx
          have s1 := (below_cell hbr.out hb').trans (a0 1 (by omega))
          simp at s1
          clear a0
          have hbn : ∀ n, Below w6.heap.size w6 (wr.drewN n) := fun n => hbr.out.trans (below_drewN _ _ n)
          by_cases qA : k = A.length
          · have dA : ((k : Int) != (A.length : Int)) = false := by simp; omega
            replace hyx := Lib.hid hyx; replace hsx := Lib.hid hsx; replace qA := Lib.hid qA; replace hbn := Lib.hid hbn
            go_wp2_with fail
            go_quiet (fail)
            go_wp2
            go_roundw
            case rel => exact ⟨k + 1, by go_num, by omega, hbn.out _⟩
            case measure => simp [intOf]; omega
          have dA : ((k : Int) != (A.length : Int)) = true := by simp; omega
          by_cases qs : 0 ≤ y.start
          rotate_left
          · have ds : decide (0 ≤ y.start) = false := by simpa using qs
            replace hyx := Lib.hid hyx; replace hsx := Lib.hid hsx; replace qA := Lib.hid qA; replace hbn := Lib.hid hbn; replace qs := Lib.hid qs
            go_wp2_with fail
            go_quiet (fail)
            go_wp2
            go_roundw
            case rel => exact ⟨k + 1, by go_num, by omega, hbn.out _⟩
            case measure => simp [intOf]; omega
          have ds : decide (0 ≤ y.start) = true := by simpa using qs
          obtain ⟨h1, h2⟩ := hke.out k y s hyx hsx qA qs
          have dt : decide (s.start < 0) = false := by simp; omega
          have du : decide (y.start < s.start) = false := by simp; omega
          replace hyx := Lib.hid hyx; replace hsx := Lib.hid hsx; replace qA := Lib.hid qA; replace hbn := Lib.hid hbn; replace qs := Lib.hid qs; replace h1 := Lib.hid h1; replace h2 := Lib.hid h2
          go_wp2_with fail
          go_quiet (fail)
          go_wp2
          go_roundw
          case rel => exact ⟨k + 1, by go_num, by omega, hbn.out _⟩
          case measure => simp [intOf]; omega
        · have hc1 : ¬ (k : Int) < n6 := by omega
          have hlowr := hlow6.out.trans (hbr.out.mono hlow6.out.size)
          replace hlowr := Lib.hid hlowr
          go_wp2
          go_ret
          exact ⟨rfl, hlowr.out⟩
end Go.Proofs.Ytpjajiambbobhaa
