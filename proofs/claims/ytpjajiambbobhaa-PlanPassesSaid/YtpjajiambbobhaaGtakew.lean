/- corveelaw07.GangTakes, walked: it answers true. Conditions: the rows that come in lie in memory. -/
import Derived.Test.YtpjajiambbobhaaGfirst
import Derived.Test.YtpjajiambbobhaaGtkp
import Derived.Test.YtpjajiambbobhaaGin
import Derived.Test.YtpjajiambbobhaaGnil
import Derived.Deep.CutRange
namespace Go.Proofs.Ytpjajiambbobhaa
open Go.RowKit

/-- what a region leaves that makes an amount's variable and reads a pool for it -/
structure CutP (wr : World) (V : V4) (bx : Value) (wx : World) : Prop where
  ex : ∃ B, bx = .pointer (some ⟨B, 0, none⟩) ∧ Hid (wr.heap.size ≤ B) ∧ Hid (wx.heap[B]? = some (.cells V.cells 23 (0, 0))) ∧ Hid (Below wr.heap.size wr wx)
theorem set4 {w : World} {b : Nat} {x0 x1 x2 x3 : Value} (h : w.heap[b]? = some (.cells #[x0, x1, x2, x3] 23 (0, 0))) (v : V4) :
    ((((w.setCell ⟨b, 0, none⟩ (.int .i64 v.a)).setCell ⟨b, 1, none⟩ (.int .i64 v.b)).setCell ⟨b, 2, none⟩ (.int .i64 v.c)).setCell ⟨b, 3, none⟩ (.int .i64 v.d)).heap[b]? = some (.cells v.cells 23 (0, 0)) := by
  rw [blk_set (blk_set (blk_set (blk_set h 0 (.int .i64 v.a)) 1 (.int .i64 v.b)) 2 (.int .i64 v.c)) 3 (.int .i64 v.d)]
  simp
theorem low4 {w0 w : World} {B b : Nat} (h : Below B w0 w) (hb : B ≤ b) (v0 v1 v2 v3 : Value) :
    Below B w0 ((((w.setCell ⟨b, 0, none⟩ v0).setCell ⟨b, 1, none⟩ v1).setCell ⟨b, 2, none⟩ v2).setCell ⟨b, 3, none⟩ v3) :=
  (((h.setCell hb _).setCell hb _).setCell hb _).setCell hb _
theorem GL.mod {w : World} {a : Actg} {wr w' : World} {S : Nat → Prop} (h : GL w a wr) (hok : a.ok w) (hm : Mod S wr w') (hs : ∀ b, S b → w.heap.size < b) : GL w a w' :=
  ⟨(hm.block _ (blk_lt h.box) (fun c => by have := hs _ c; omega)).trans h.box, ⟨h.ok.1.mod hm (fun h0 b off e hb => by
    obtain ⟨b', off', e', hlt, _⟩ := hok.1.cell 0 h0
    rw [e] at e'
    cases e'
    have := hs b hb
    omega), h.ok.2⟩, below_mod h.low hm (fun k hk => by have := hs k hk; omega) h.low.size⟩
theorem fresh_pos {ps ps' : List Nd} {w : World} {B : Nat} (hk : Kin w ps ps') (h : ∀ b, Mine ps b → B < b) (hB : B < w.heap.size) : ∀ b, Mine ps' b → B < b := fun b hb => by
  rcases hk.mine hb with c | c
  · exact h b c
  · omega

set_option maxRecDepth 100000 in
set_option maxHeartbeats 3200000 in
theorem gtakes_any (vo : Option Addr) (n c : Nat) (vs : List V4) (sv : Value) (acts : List Actg) (a : Actg) (w : World) (hv : VecsAt w vo n vs) (ha : ActgsAt w sv acts) (hok : a.ok w) :
    Calls Try.prog 9 #[.slice vo n c, sv, a.val] w fun e w' => e = .returned (.bool true) ∧ Below w.heap.size w w' := by
  have hG0 : GL w a (w.alloc a.obj) := GL.new hok
  replace hv := Lib.hid hv; replace ha := Lib.hid ha; replace hok := Lib.hid hok; replace hG0 := Lib.hid hG0
  go_enter Try.func9, Try.ntmps9
  go_wp2_with fail
  refine (gawake_any _).mono ?_
  rintro e w1 ⟨rfl, hb1⟩
  have hG1 : GL w a w1 := hG0.out.below hb1
  replace hG1 := Lib.hid hG1; replace hb1 := Lib.hid hb1
  go_wp2_with fail
  refine (gtaken_any vo n c vs sv acts w1 (hv.out.below hG1.out.low (Nat.le_refl _)) (ha.out.below hG1.out.low)).mono ?_
  rintro e w2 (⟨rfl, hb2⟩ | ⟨gb, gs, po, cap, ps, rfl, hp2, hmine, hb2⟩)
  · have hG2 : GL w a w2 := hG1.out.below hb2
    replace hG2 := Lib.hid hG2; replace hb2 := Lib.hid hb2
    go_wp2
    go_ret
    exact ⟨rfl, hG2.out.low⟩
  have hG2 : GL w a w2 := hG1.out.below hb2
  obtain ⟨x1, x2, x3, x4, x5, x6, x7, x8⟩ := actg_cells hG2.box
  have l2 := blk_lt hG2.box
  by_cases q1 : 60 < a.n
  · have d1 : decide (60 < (a.n : Int)) = true := by simp; omega
    replace hG2 := Lib.hid hG2; replace hb2 := Lib.hid hb2; replace hp2 := Lib.hid hp2; replace q1 := Lib.hid q1; replace hmine := Lib.hid hmine
    go_wp2
    go_ret
    exact ⟨rfl, hG2.out.low⟩
  have d1 : decide (60 < (a.n : Int)) = false := by simp; omega
  have hf := find_any gb gs cap po ps a.ao a.n a.c a.zs a.many a.v a.tt a.fr w2 hp2 hG2.ok.1
  replace hf := Lib.hid hf; replace hG2 := Lib.hid hG2; replace hb2 := Lib.hid hb2; replace hp2 := Lib.hid hp2; replace q1 := Lib.hid q1; replace hmine := Lib.hid hmine
  go_wp2_with fail
  refine hf.out.mono ?_
  rintro e w3 ⟨t, so, m, c2, xs, is, rfl, hR, hz3, hnc, hso, hb3⟩
  have hG3 : GL w a w3 := hG2.out.below hb3
  have hp3 := hp2.out.below hb3
  clear x1 x2 x3 x4 x5 x6 x7 x8 l2
  obtain ⟨x1, x2, x3, x4, x5, x6, x7, x8⟩ := actg_cells hG3.box
  have l3 := blk_lt hG3.box
  have hm3 : m = xs.length := by rw [← hz3.len]; simp [ints]
  replace hG3 := Lib.hid hG3; replace hb3 := Lib.hid hb3; replace hp3 := Lib.hid hp3; replace hso := Lib.hid hso
  cases is with
  | false =>
    obtain ⟨rfl, rfl, _⟩ := hR.none
    have hm0 : m = 0 := hm3
    subst hm0
    replace hR := Lib.hid hR; replace hz3 := Lib.hid hz3; replace hm3 := Lib.hid hm3
    go_wp2
    go_ret
    exact ⟨rfl, hG3.out.low⟩
  | true =>
    have F := hR.found
    have g1 := F.ge; have g2 := F.fin; have g3 := F.ticks1; have g4 := F.many1; have g5 := F.len; have g6 := F.lt
    have d2 : decide (t < 0) = false := by simp; omega
    have d3 : decide (t < a.fr) = false := by simp; omega
    have d4 : ((m : Int) != a.many) = false := by rw [bne_eq_false_iff_eq, hm3]; exact g5
    have hm0 : 0 < m := by omega
    have hm00 : (0 : Int) < m := by omega
    have hmax := hz3.max
    obtain ⟨b, off, rfl, lb, z0⟩ := hz3.cell 0 hm0
    rw [Nat.add_zero] at z0
    have hgang := F.gang
    have e4 : IntKind.i64.wrap (t + a.tt) = t + a.tt := IntWalk.i64_in _ (by omega)
    replace hR := Lib.hid hR; replace F := Lib.hid F; replace hz3 := Lib.hid hz3; replace hgang := Lib.hid hgang; replace hm3 := Lib.hid hm3
    replace g1 := Lib.hid g1; replace g2 := Lib.hid g2; replace g3 := Lib.hid g3; replace g4 := Lib.hid g4; replace g5 := Lib.hid g5; replace g6 := Lib.hid g6
    go_wp2
    clear x1 x2 x3 x4 x5 x6 x7 x8 l3 d2 d3 d4
    go_loopw [12, 13] (fun i _ wr => ∃ k : Nat, i = .int .i64 k ∧ k ≤ m ∧ Hid (Below w3.heap.size w3 wr)) (fun i _ _ => m - (intOf i).toNat)
    case atStart => exact ⟨0, rfl, Nat.zero_le _, Below.refl _ _⟩
    case round =>
      obtain ⟨k, rfl, hk, hB⟩ := hrel
      have hGr := hG3.out.below hB.out
      obtain ⟨x1, x2, x3, x4, x5, x6, x7, x8⟩ := actg_cells hGr.box
      have lr := blk_lt hGr.box
      have sz := hB.out.size
      by_cases hc : k < m
      · have hc1 : (k : Int) < m := by omega
        have hk0 : (0 : Int) ≤ (k : Int) := by omega
        obtain ⟨b', off', e', _, a0⟩ := hz3.out.cell k hc
        cases e'
        have b0 := (below_cell hB.out lb).trans a0
        clear a0
        obtain ⟨x, hx⟩ : ∃ x, x = zi (ints xs) k := ⟨_, rfl⟩
        rw [← hx] at b0
        have hle : (ints xs).length = m := by rw [hm3.out]; simp [ints]
        have hmem : x ∈ a.zs := by
          obtain ⟨j, hj⟩ : ∃ j : Nat, j ∈ xs ∧ x = (j : Int) := by
            have hkx : k < xs.length := by rw [← hm3.out]; exact hc
            exact ⟨xs[k], List.getElem_mem hkx, by rw [hx]; simp [zi, ints, List.getD, hkx]⟩
          obtain ⟨j0, h0, h1⟩ := (hgang.out.2.1 j hj.1).2.1
          rw [hj.2, ← h1]
          exact mem_zi.2 ⟨j0, h0, rfl⟩
        have hin := in_any a.ao a.n a.c a.zs x wr.drew (hGr.ok.1.below (Below.refl _ _).drew (Nat.le_refl _))
        have hbd : Below w3.heap.size w3 wr.drew := hB.out.drew
        replace hx := Lib.hid hx; replace hmem := Lib.hid hmem; replace hin := Lib.hid hin; replace hGr := Lib.hid hGr; replace hle := Lib.hid hle; replace hbd := Lib.hid hbd
        go_wp2_with fail
        go_region_held3 (fun w' => w'.cell? ⟨w.heap.size, 1, none⟩ = some (.slice a.ao a.n a.c) ∧ w'.cell? ⟨b, off + k, none⟩ = some (.int .i64 x))
          (first
            | (go_keep; done))
          (first
            | (go_at_call 38
               refine hin.out.mono ?_
               rintro e w5 ⟨bb, rfl, hbb, rfl⟩
               obtain rfl : bb = true := hbb.2 hmem.out
               clear hbb))
        by_cases k0 : k = 0
        · have dk : decide (0 < (k : Int)) = false := by simp; omega
          have dk2 : decide (0 < k) = false := by simp; omega
          replace k0 := Lib.hid k0
          go_wp2
          go_quiet (fail)
          go_wp2
          go_roundw
          case rel => exact ⟨k + 1, by go_num, by omega, ⟨hB.out.os, hB.out.tape, hB.out.output, hB.out.size, hB.out.block⟩⟩
          case measure => simp [intOf]; omega
        · obtain ⟨j, hj⟩ : ∃ j, k = j + 1 := ⟨k - 1, by omega⟩
          have dk : decide (0 < (k : Int)) = true := by simp; omega
          have dk2 : decide (0 < k) = true := by simp; omega
          have ej : IntKind.i64.wrap ((k : Int) - 1) = (j : Int) := by rw [IntWalk.i64_in _ (by omega)]; omega
          have hj1 : (j : Int) < m := by omega
          have hj0 : (0 : Int) ≤ (j : Int) := by omega
          obtain ⟨b', off', e', _, a1⟩ := hz3.out.cell j (by omega)
          cases e'
          have b1 : wr.cell? ⟨b, off + j, none⟩ = some (.int .i64 (zi (ints xs) j)) := (below_cell hB.out lb).trans a1
          clear a1
          obtain ⟨y, hy⟩ : ∃ y, y = zi (ints xs) j := ⟨_, rfl⟩
          rw [← hy] at b1
          have dxy : decide (x ≤ y) = false := by
            have h1 := hgang.out.1.rise j (by rw [hle.out]; omega)
            rw [← hj, ← hx.out, ← hy] at h1
            simp; omega
          replace k0 := Lib.hid k0; replace hj := Lib.hid hj; replace hy := Lib.hid hy
          go_wp2
          go_quiet (fail)
          go_wp2
          go_roundw
          case rel => exact ⟨k + 1, by go_num, by omega, ⟨hB.out.os, hB.out.tape, hB.out.output, hB.out.size, hB.out.block⟩⟩
          case measure => simp [intOf]; omega
      · have hc1 : ¬ (k : Int) < m := by omega
        have hkm : k = m := by omega
        have y0 := (below_cell hB.out lb).trans z0
        replace hkm := Lib.hid hkm; replace hGr := Lib.hid hGr
        obtain ⟨v0, hv0⟩ : ∃ v0, v0 = zi (ints xs) 0 := ⟨_, rfl⟩
        rw [← hv0] at y0
        have hpr := hp3.out.below hB.out
        obtain ⟨Z, hZ⟩ : ∃ Z : Obj, Z = .cells #[.int .i64 0, .int .i64 0, .int .i64 0, .int .i64 0] 23 (0, 0) := ⟨_, rfl⟩
        have hfr : ∀ W : World, Below wr.heap.size wr W → Calls Try.prog 39 #[.pointer (some ⟨gb, 0, none⟩), .int .i64 v0, .int .i64 t, .int .i64 (t + a.tt)] W (fun e w' => e = .returned (freeG ps v0 t (t + a.tt)).val ∧ Below W.heap.size W w') :=
          fun W hb => freeg_any gb gs cap po ps v0 t (t + a.tt) W (hpr.below hb)
        obtain ⟨B1, hB1⟩ : ∃ B1, B1 = freeG ps v0 t (t + a.tt) := ⟨_, rfl⟩
        rw [← hB1] at hfr
        have hA : Below wr.heap.size wr wr.drew := (Below.refl _ _).drew
        have hBz : Below wr.heap.size wr (wr.alloc (.cells #[.int .i64 0, .int .i64 0, .int .i64 0, .int .i64 0] 23 (0, 0))).drew := ((Below.refl _ _).alloc (Nat.le_refl _) _).drew
        replace hv0 := Lib.hid hv0; replace hpr := Lib.hid hpr; replace hfr := Lib.hid hfr; replace hB1 := Lib.hid hB1; replace hA := Lib.hid hA; replace hBz := Lib.hid hBz; replace hZ := Lib.hid hZ
        have lb2 : b < wr.heap.size := by omega
        have x3d : Hid (wr.drew.cell? ⟨w.heap.size, 3, none⟩ = some (.int .i64 a.tt)) := x3
        have y0d : Hid (wr.drew.cell? ⟨b, off, none⟩ = some (.int .i64 v0)) := y0
        go_upto_region 18 with fail
        go_cut [14] from 107 to 116 (fun bx wx => CutP wr B1 bx wx)
        case first =>
          go_region_held3 (fun w' => w'.cell? ⟨w.heap.size, 3, none⟩ = some (.int .i64 a.tt) ∧ w'.cell? ⟨b, off, none⟩ = some (.int .i64 v0))
            (first
              | with_reducible exact ⟨x3d.out, y0d.out⟩
              | with_reducible exact ⟨(below_cell hb5.out lr).trans x3, (below_cell hb5.out lb2).trans y0⟩
              | with_reducible exact ⟨(below_cell hBz.out lr).trans x3, (below_cell hBz.out lb2).trans y0⟩
              | with_reducible exact ⟨(below_cell (hb5.out.alloc hb5.out.size _) lr).trans x3, (below_cell (hb5.out.alloc hb5.out.size _) lb2).trans y0⟩
              | with_reducible exact ⟨(below_cell ((((hb5.out.setCell (Nat.le_refl _) _).setCell (Nat.le_refl _) _).setCell (Nat.le_refl _) _).setCell (Nat.le_refl _) _) lr).trans x3, (below_cell ((((hb5.out.setCell (Nat.le_refl _) _).setCell (Nat.le_refl _) _).setCell (Nat.le_refl _) _).setCell (Nat.le_refl _) _) lb2).trans y0⟩)
            (first
              | (go_at_call 39
                 refine (hfr.out _ hA.out).mono ?_
                 rintro e w5 ⟨rfl, hb5⟩
                 replace hb5 := Lib.hid (hA.out.trans (hb5.mono hA.out.size)))
              | (go_at_call 39
                 refine (hfr.out _ hBz.out).mono ?_
                 rintro e w5 ⟨rfl, hb5⟩
                 have z5 : w5.heap[wr.heap.size]? = some (.cells #[.int .i64 0, .int .i64 0, .int .i64 0, .int .i64 0] 23 (0, 0)) := blk_below hb5 (blk_new _ _) (by simp)
                 have u0 := blk_cell z5 0; have u1 := blk_cell z5 1; have u2 := blk_cell z5 2; have u3 := blk_cell z5 3
                 have f0 := blk_free z5 0; have f1 := blk_free z5 1; have f2 := blk_free z5 2; have f3 := blk_free z5 3
                 simp at u0 u1 u2 u3
                 replace z5 := Lib.hid z5
                 replace hb5 := Lib.hid (hBz.out.trans (hb5.mono hBz.out.size))))
          · go_wp2_with fail
            go_meet
            exact ⟨⟨w5.heap.size, rfl, hb5.out.size, blk_new _ _, hb5.out.alloc hb5.out.size _⟩⟩
          · go_wp2_with fail
            go_meet
            exact ⟨⟨wr.heap.size, rfl, Nat.le_refl _, set4 z5.out B1, low4 hb5.out (Nat.le_refl _) _ _ _ _⟩⟩
        case rest =>
          obtain ⟨⟨B, rfl, hBb, hBv, hBc⟩⟩ := hcut
          have hGc := hGr.out.below hBc.out
          have hpc := hpr.out.below hBc.out
          have sc := hBc.out.size
          have hzc := hz3.out.below (hB.out.trans (hBc.out.mono sz)) (Nat.le_refl _)
          have hmw : ∀ b, Mine ps b → w.heap.size < b := fun b hb => by have := hmine.out b hb; have := blk_lt hG1.out.box; omega
          have hm2 : ∀ b, Mine ps b → b < w2.heap.size := fun b hb => hp2.out.mine_lt hb
          have hoff : 0 < m → Off (some ⟨b, off, none⟩) (Mine ps) := fun _ b' off' e hb => by cases e; have := hso.out _ _ rfl; have := hm2 _ hb; omega
          have htk := gtake_any gb gs cap po ps (some ⟨b, off, none⟩) m c2 (ints xs) t (t + a.tt) a.v wc hpc hzc hoff hnc
          have lBc := blk_lt hBv.out
          clear x1 x2 x3 x4 x5 x6 x7 x8 x3d y0d
          obtain ⟨x1, x2, x3, x4, x5, x6, x7, x8⟩ := actg_cells hGc.box
          have lc := blk_lt hGc.box
          replace hGc := Lib.hid hGc; replace hpc := Lib.hid hpc; replace hzc := Lib.hid hzc; replace hmw := Lib.hid hmw; replace hm2 := Lib.hid hm2; replace hoff := Lib.hid hoff; replace htk := Lib.hid htk
          go_wp2_with fail
          refine htk.out.mono ?_
          rintro e w6 ⟨r6, ps6, rfl, hT6, hp6, hk6, hm6⟩
          obtain ⟨rfl, _⟩ := F.out.take (fun i hi => (hp2.out.inv i hi).loose) hT6
          have hG6 := hGc.out.mod hok.out hm6 hmw.out
          have s23 := hb3.out.size
          have s3r := hB.out.size
          have hBv6 : w6.heap[B]? = some (.cells B1.cells 23 (0, 0)) := (hm6.block B lBc (fun c => by have := hm2.out _ c; have := hBb.out; omega)).trans hBv.out
          have hz6 : IntsAt w6 (some ⟨b, off, none⟩) m (ints xs) := hzc.out.mod hm6 hoff.out
          have hmw6 := fresh_pos hk6 hmw.out lc
          have lb6 : b < w6.heap.size := by have := hm6.size; omega
          obtain ⟨j0, hj0m, hj0v⟩ : ∃ j : Nat, j ∈ xs ∧ v0 = (j : Int) := by
            have hkx : 0 < xs.length := by rw [← hm3.out]; exact hm0
            exact ⟨xs[0], List.getElem_mem hkx, by rw [hv0.out]; simp [zi, ints, List.getD, hkx]⟩
          obtain ⟨B2, hB2⟩ : ∃ B2, B2 = freeG ps6 v0 t (t + a.tt) := ⟨_, rfl⟩
          have hmine6 := hk6.len
          obtain ⟨e0, e1, e2, e3⟩ := F.out.wraps hp2.out.inv hk6.len hk6.whole hp6.inv hT6 hj0m
          rw [← hj0v, ← hB1.out, ← hB2] at e0 e1 e2 e3
          have y6 : w6.cell? ⟨b, off, none⟩ = some (.int .i64 v0) := by
            obtain ⟨b', off', e', _, a0⟩ := hz6.cell 0 hm0
            cases e'
            rw [Nat.add_zero, ← hv0.out] at a0
            exact a0
          have hfr6 : ∀ W : World, Below w6.heap.size w6 W → Calls Try.prog 39 #[.pointer (some ⟨gb, 0, none⟩), .int .i64 v0, .int .i64 t, .int .i64 (t + a.tt)] W (fun e w' => e = .returned B2.val ∧ Below W.heap.size W w') :=
            fun W hb => by rw [hB2]; exact freeg_any gb gs cap po ps6 v0 t (t + a.tt) W (hp6.below hb)
          have hA6 : Below w6.heap.size w6 w6.drew := (Below.refl _ _).drew
          have hBz6 : Below w6.heap.size w6 (w6.alloc (.cells #[.int .i64 0, .int .i64 0, .int .i64 0, .int .i64 0] 23 (0, 0))).drew := ((Below.refl _ _).alloc (Nat.le_refl _) _).drew
          clear x1 x2 x3 x4 x5 x6 x7 x8 lc y0 lr
          obtain ⟨x1, x2, x3, x4, x5, x6, x7, x8⟩ := actg_cells hG6.box
          have lr := blk_lt hG6.box
          have x3d : Hid (w6.drew.cell? ⟨w.heap.size, 3, none⟩ = some (.int .i64 a.tt)) := x3
          have y0d : Hid (w6.drew.cell? ⟨b, off, none⟩ = some (.int .i64 v0)) := y6
          replace hT6 := Lib.hid hT6; replace hp6 := Lib.hid hp6; replace hk6 := Lib.hid hk6; replace hm6 := Lib.hid hm6; replace hG6 := Lib.hid hG6; replace hBv6 := Lib.hid hBv6; replace hz6 := Lib.hid hz6; replace hmw6 := Lib.hid hmw6
          replace hj0m := Lib.hid hj0m; replace hj0v := Lib.hid hj0v; replace hB2 := Lib.hid hB2; replace hfr6 := Lib.hid hfr6; replace hA6 := Lib.hid hA6; replace hBz6 := Lib.hid hBz6; replace hmine6 := Lib.hid hmine6
          go_upto_region 20 with fail
          go_cut [16] from 127 to 136 (fun bx wx => CutP w6 B2 bx wx)
          case first =>
            go_region_held3 (fun w' => w'.cell? ⟨w.heap.size, 3, none⟩ = some (.int .i64 a.tt) ∧ w'.cell? ⟨b, off, none⟩ = some (.int .i64 v0))
              (first
                | with_reducible exact ⟨x3d.out, y0d.out⟩
                | with_reducible exact ⟨(below_cell hb5.out lr).trans x3, (below_cell hb5.out lb6).trans y6⟩
                | with_reducible exact ⟨(below_cell hBz6.out lr).trans x3, (below_cell hBz6.out lb6).trans y6⟩
                | with_reducible exact ⟨(below_cell (hb5.out.alloc hb5.out.size _) lr).trans x3, (below_cell (hb5.out.alloc hb5.out.size _) lb6).trans y6⟩
                | with_reducible exact ⟨(below_cell (low4 hb5.out (Nat.le_refl _) _ _ _ _) lr).trans x3, (below_cell (low4 hb5.out (Nat.le_refl _) _ _ _ _) lb6).trans y6⟩)
              (first
                | (go_at_call 39
                   refine (hfr6.out _ hA6.out).mono ?_
                   rintro e w5 ⟨rfl, hb5⟩
                   replace hb5 := Lib.hid (hA6.out.trans (hb5.mono hA6.out.size)))
                | (go_at_call 39
                   refine (hfr6.out _ hBz6.out).mono ?_
                   rintro e w5 ⟨rfl, hb5⟩
                   have z5 : w5.heap[w6.heap.size]? = some (.cells #[.int .i64 0, .int .i64 0, .int .i64 0, .int .i64 0] 23 (0, 0)) := blk_below hb5 (blk_new _ _) (by simp)
                   have u0 := blk_cell z5 0; have u1 := blk_cell z5 1; have u2 := blk_cell z5 2; have u3 := blk_cell z5 3
                   have f0 := blk_free z5 0; have f1 := blk_free z5 1; have f2 := blk_free z5 2; have f3 := blk_free z5 3
                   simp at u0 u1 u2 u3
                   replace z5 := Lib.hid z5
                   replace hb5 := Lib.hid (hBz6.out.trans (hb5.mono hBz6.out.size))))
            · go_wp2_with fail
              go_meet
              exact ⟨⟨w5.heap.size, rfl, hb5.out.size, blk_new _ _, hb5.out.alloc hb5.out.size _⟩⟩
            · go_wp2_with fail
              go_meet
              exact ⟨⟨w6.heap.size, rfl, Nat.le_refl _, set4 z5.out B2, low4 hb5.out (Nat.le_refl _) _ _ _ _⟩⟩
          case rest =>
            rename World => wd
            obtain ⟨⟨C, rfl, hCb, hCv, hCc⟩⟩ := hcut
            have hGd := hG6.out.below hCc.out
            have sd := hCc.out.size
            have hBd := blk_below hCc.out hBv6.out (blk_lt hBv6.out)
            clear x1 x2 x3 x4 x5 x6 x7 x8 x3d y0d y6 lr
            obtain ⟨x1, x2, x3, x4, x5, x6, x7, x8⟩ := actg_cells hGd.box
            have lr := blk_lt hGd.box
            have p0 := blk_cell hBd 0; have p1 := blk_cell hBd 1; have p2 := blk_cell hBd 2; have p3 := blk_cell hBd 3
            have r0 := blk_cell hCv.out 0; have r1 := blk_cell hCv.out 1; have r2 := blk_cell hCv.out 2; have r3 := blk_cell hCv.out 3
            simp at p0 p1 p2 p3 r0 r1 r2 r3
            have lB := blk_lt hBd
            have lC := blk_lt hCv.out
            have hN : ∀ n, Below w6.heap.size w6 (wd.drewN n) := fun n => hCc.out.trans (below_drewN _ _ n)
            have hoff6 : 0 < m → Off (some ⟨b, off, none⟩) (Mine ps6) := fun _ b' off' e hb => by
              cases e
              rcases hk6.out.mine hb with c | c
              · exact hoff.out hm0 _ _ rfl c
              · omega
            have hgv : ∀ n, Calls Try.prog 40 #[.pointer (some ⟨gb, 0, none⟩), .slice (some ⟨b, off, none⟩) m c2, .int .i64 t, .int .i64 (t + a.tt), a.v.val] (wd.drewN n) (GPost (GaveG ps6 (ints xs) t (t + a.tt) a.v) gb gs cap po ps6 (wd.drewN n)) :=
              fun n => ggive_any gb gs cap po ps6 (some ⟨b, off, none⟩) m c2 (ints xs) t (t + a.tt) a.v (wd.drewN n) (hp6.out.below (hN n)) (hz6.out.below (hN n) (Nat.le_refl _)) hoff6 hnc
            replace hGd := Lib.hid hGd; replace hBd := Lib.hid hBd; replace hN := Lib.hid hN; replace hoff6 := Lib.hid hoff6; replace hgv := Lib.hid hgv
            go_wp2
            refine wp_loop_rounds 5 ?_
            rw [rounds_succ]
            go_wp2
            go_quiet (fail)
            go_wp2
            rw [rounds_succ]
            go_wp2
            go_quiet (fail)
            go_wp2
            rw [rounds_succ]
            go_wp2
            go_quiet (fail)
            go_wp2
            rw [rounds_succ]
            go_wp2
            go_quiet (fail)
            go_wp2
            rw [rounds_succ]
            go_wp2_with fail
            refine (hgv.out _).mono ?_
            rintro e w8 ⟨r8, ps8, rfl, hG8, hp8, hk8, hm8⟩
            obtain ⟨rfl, hsame⟩ := F.out.back hp2.out.inv hk6.out.len hk6.out.whole hk8.len hp8.inv hT6.out hG8
            have hGL8 := (hG6.out.below (hN.out _)).mod hok.out hm8 hmw6.out
            have hz8 : IntsAt w8 (some ⟨b, off, none⟩) m (ints xs) := (hz6.out.below (hN.out _) (Nat.le_refl _)).mod hm8 hoff6.out
            have hf8 := find_any gb gs cap po ps8 a.ao a.n a.c a.zs a.many a.v a.tt a.fr w8 hp8 hGL8.ok.1
            clear x1 x2 x3 x4 x5 x6 x7 x8 lr p0 p1 p2 p3 r0 r1 r2 r3 e0 e1 e2 e3
            obtain ⟨x1, x2, x3, x4, x5, x6, x7, x8⟩ := actg_cells hGL8.box
            have lr := blk_lt hGL8.box
            have hl8 : ps8.length = ps.length := hk8.len.trans hk6.out.len
            replace hG8 := Lib.hid hG8; replace hp8 := Lib.hid hp8; replace hk8 := Lib.hid hk8; replace hm8 := Lib.hid hm8; replace hsame := Lib.hid hsame; replace hGL8 := Lib.hid hGL8; replace hz8 := Lib.hid hz8; replace hf8 := Lib.hid hf8; replace hl8 := Lib.hid hl8
            go_wp2_with fail
            refine hf8.out.mono ?_
            rintro e w9 ⟨t9, s9, n9, c9, xs9, is9, rfl, hR9, hz9, _, _, hb9⟩
            obtain ⟨e1, e2, e3⟩ := hR.out.same hR9 (fun u => sel_same hl8.out hsame.out u)
            clear hR9
            subst e1; subst e2; subst e3
            have hG9 := hGL8.out.below hb9
            have hz8' := hz8.out.below hb9 (Nat.le_refl _)
            have hsm := samei_any (some ⟨b, off, none⟩) s9 m n9 c2 c9 _ _ w9 hz8' hz9
            clear x1 x2 x3 x4 x5 x6 x7 x8 lr
            replace hG9 := Lib.hid hG9; replace hz8' := Lib.hid hz8'; replace hz9 := Lib.hid hz9; replace hb9 := Lib.hid hb9; replace hsm := Lib.hid hsm
            go_wp2_with fail
            refine hsm.out.mono ?_
            rintro e w10 ⟨b10, rfl, hb10, hB10⟩
            obtain rfl : b10 = true := hb10.2 rfl
            have hG10 := hG9.out.low.trans (hB10.mono hG9.out.low.size)
            clear hb10
            replace hG10 := Lib.hid hG10; replace hB10 := Lib.hid hB10
            go_wp2
            go_ret
            exact ⟨rfl, hG10.out⟩
end Go.Proofs.Ytpjajiambbobhaa
