/- (*Profile).change, walked. -/
import Derived.Test.YtpjajiambbobhaaChg
namespace Go.Proofs.Ytpjajiambbobhaa
open Go.RowKit

def ChangeRel (l : List St) (fr to : Int) (g : V4 → V4) (l' : List St) : Prop :=
  ∃ i l1 e l2, CutRel l fr i l1 ∧ ((to < 1099511627776 ∧ CutRel l1 to e l2) ∨ (to = 1099511627776 ∧ l2 = l1 ∧ e = l1.length)) ∧ l' = comp (mapR g i e l2)

def ChangePost (pb sb : Nat) (whole : V4) (l : List St) (fr to : Int) (g : V4 → V4) (w : World) (e : Ending) (w' : World) : Prop :=
  e = .returned (.tuple #[]) ∧ ∃ sb' cap' l', ChangeRel l fr to g l' ∧ Prof w' pb sb' cap' whole l' ∧ (sb' = sb ∨ w.heap.size ≤ sb') ∧ Mod (fun b => b = pb ∨ b = sb) w w'

/-- the loop and what is behind it, from the place where both cuts are made -/
def Cuts (pb sb vb : Nat) (V whole : V4) (w wr : World) (sb2 cap2 : Nat) (M : List St) : Prop :=
  Prof wr pb sb2 cap2 whole M ∧ (sb2 = sb ∨ w.heap.size ≤ sb2) ∧ Mod (fun b => b = pb ∨ b = sb) w wr ∧ wr.heap[vb]? = some (.cells V.cells 23 (0, 0)) ∧ vb ≠ pb ∧ vb ≠ sb2

def World.setF (w : World) (sb i : Nat) (f : V4) : World :=
  (((w.setCell ⟨sb, i * 5 + 1, none⟩ (.int .i64 f.a)).setCell ⟨sb, i * 5 + 2, none⟩ (.int .i64 f.b)).setCell ⟨sb, i * 5 + 3, none⟩ (.int .i64 f.c)).setCell ⟨sb, i * 5 + 4, none⟩ (.int .i64 f.d)

theorem Row.setF {w : World} {sb cap : Nat} {l : List St} (h : Row w sb cap l) (i : Nat) (f : V4) (hi : i < l.length) : Row (World.setF w sb i f) sb cap (l.set i ⟨(nth l i).t, f⟩) := by
  have h5 := h.setSt i ⟨(nth l i).t, f⟩ hi
  have hc := (h.cells hi).1
  refine h5.of_block ?_
  obtain ⟨_, _, cur, hb, _⟩ := h
  have hsame : (w.setCell ⟨sb, i * 5, none⟩ (.int .i64 (nth l i).t)).heap[sb]? = w.heap[sb]? := by
    rw [blk_set hb, hb]
    rw [blk_cell hb] at hc
    congr 2
    apply Array.ext
    · simp
    · intro j h1 h2
      rw [Array.getElem_setIfInBounds]
      split
      · next e => subst e; rw [Array.getElem?_eq_getElem h2] at hc; exact (Option.some.inj hc).symm
      · rfl
  unfold World.setF World.setSt
  rw [blk_set (blk_set (blk_set (blk_set hb _ _) _ _) _ _) _ _]
  rw [blk_set (blk_set (blk_set (blk_set (hsame.trans hb) _ _) _ _) _ _) _ _]

theorem Mod.setF {S : Nat → Prop} (w : World) (sb i : Nat) (f : V4) (hS : S sb) : Mod S w (World.setF w sb i f) :=
  (((Mod.setCell _ _ _ _ hS).trans (Mod.setCell _ _ _ _ (.inl hS))).trans (Mod.setCell _ _ _ _ (.inl hS))).trans (Mod.setCell _ _ _ _ (.inl hS))

theorem cuts_step {pb sb vb : Nat} {V whole : V4} {w wr w4 : World} {sb2 cap2 : Nat} {M : List St} (h : Cuts pb sb vb V whole w wr sb2 cap2 M) (hb4 : Below wr.heap.size wr w4) (a : Nat) (f : V4) (ha : a < M.length) :
    Cuts pb sb vb V whole w (World.setF w4 sb2 a f) sb2 cap2 (M.set a ⟨(nth M a).t, f⟩) := by
  obtain ⟨⟨p1, p2, p3⟩, h2, h3, h4, h5, h6⟩ := h
  have l1 := blk_lt p1
  have l2 := p2.lt
  have l3 := blk_lt h4
  have m4 : Mod (fun b => b = sb2) w4 (World.setF w4 sb2 a f) := Mod.setF w4 sb2 a f rfl
  have s4 := hb4.size
  refine ⟨⟨?_, (p2.below hb4 l2).setF a f ha, p3⟩, h2, ?_, ?_, h5, h6⟩
  · rw [m4.block pb (by omega) p3, hb4.block pb l1, p1, List.length_set]
  · refine (h3.trans (Mod.of_below hb4)).trans (Mod.mono m4 ?_)
    rintro k _ rfl
    rcases h2 with h | h
    · exact .inl (.inr h)
    · exact .inr h
  · rw [m4.block vb (by omega) h6, hb4.block vb l3]; exact h4

theorem change_fin {pb sb vb : Nat} {V whole : V4} {l : List St} {fr to : Int} {g : V4 → V4} {w wr w5 : World} {sb2 cap2 : Nat} {M : List St} (h : Cuts pb sb vb V whole w wr sb2 cap2 M) (hc : ChangeRel l fr to g (comp M))
    (hrow : Row w5 sb2 cap2 (comp M)) (hmod : Mod (· = sb2) wr w5) : ChangePost pb sb whole l fr to g w (.returned (.tuple #[])) (w5.setCell ⟨pb, 4, none⟩ (.slice (some ⟨sb2, 0, none⟩) (comp M).length cap2)) := by
  obtain ⟨⟨p1, p2, p3⟩, h2, h3, h4, h5, h6⟩ := h
  have l1 := blk_lt p1
  refine ⟨rfl, sb2, cap2, comp M, hc, ⟨?_, hrow.of_block (Below.heap_setCell _ _ _ _ (Ne.symm p3)), p3⟩, h2, ?_⟩
  · rw [blk_set ((hmod.block pb l1 p3).trans p1)]; simp
  · refine (h3.trans (hmod.mono ?_)).trans (Mod.setCell _ _ _ _ (.inl (.inl rfl)))
    rintro k _ rfl
    rcases h2 with h | h
    · exact .inl (.inr h)
    · exact .inr h

set_option maxRecDepth 100000 in
set_option maxHeartbeats 1600000 in
theorem change_any (pb sb cap vb : Nat) (V whole : V4) (l : List St) (fr to : Int) (F : FuncId) (g : V4 → V4) (w : World) (hp : Prof w pb sb cap whole l) (hl : Loose l)
    (h0 : 0 ≤ fr) (h1 : fr < to) (h2 : to ≤ 1099511627776) (hv : w.heap[vb]? = some (.cells V.cells 23 (0, 0))) (hv1 : vb ≠ pb) (hv2 : vb ≠ sb)
    (hF : ∀ args w, (callFunc F args).run Try.prog w = .ok (.enter F args) w)
    (H : ∀ (s : V4) (w1 : World), w1.heap[vb]? = some (.cells V.cells 23 (0, 0)) → Calls Try.prog F #[s.val, .pointer (some ⟨vb, 0, none⟩)] w1 fun e w2 => e = .returned (g s).val ∧ Below w1.heap.size w1 w2) :
    Calls Try.prog 63 #[.pointer (some ⟨pb, 0, none⟩), .int .i64 fr, .int .i64 to, .func (.func F) #[] #[.pointer (some ⟨vb, 0, none⟩)]] w (ChangePost pb sb whole l fr to g w) := by
  replace H := Lib.hid H
  replace hp := Lib.hid hp; replace hl := Lib.hid hl; replace hv := Lib.hid hv
  replace hv1 := Lib.hid hv1; replace hv2 := Lib.hid hv2
  go_enter Try.func63, Try.ntmps63
  go_wp2_with fail
  refine (cut_rel pb sb cap whole l fr w hp.out hl.out h0 (by omega)).mono ?_
  rintro e w2 ⟨i, sb1, cap1, l1, rfl, hc1, hp1, hs1, hm1⟩
  obtain ⟨hl1, hi1, hi2, hi3, hi4, hi5⟩ := hc1.facts hl.out (by omega)
  have p4 := blk_cell hp1.head 4
  simp at p4
  have hlen1 := hl1.len
  have hC : Cuts pb sb vb V whole w w2 sb1 cap1 l1 := ⟨hp1, hs1, hm1.mono fun k _ h => .inl h, (hm1.block vb (blk_lt hv.out) hv1.out).trans hv.out, hv1.out, by rcases hs1 with h | h; (rw [h]; exact hv2.out); (have := blk_lt hv.out; omega)⟩
  replace hC := Lib.hid hC; replace hc1 := Lib.hid hc1; replace hl1 := Lib.hid hl1; replace hp1 := Lib.hid hp1; replace hs1 := Lib.hid hs1; replace hm1 := Lib.hid hm1
  replace hi2 := Lib.hid hi2; replace hi4 := Lib.hid hi4; replace hi5 := Lib.hid hi5
  by_cases hto : to < 1099511627776
  · go_wp2_with fail
    refine (cut_rel pb sb1 cap1 whole l1 to w2 hp1.out hl1.out (by omega) h2).mono ?_
    rintro e w3 ⟨n, sb2, cap2, l2, rfl, hc2, hp2, hs2, hm2⟩
    obtain ⟨hl2, hn1, hn2, hn3, hn4, hn5⟩ := hc2.facts hl1.out hto
    have hie : i ≤ n := by have := hn4 i hi1 (by rw [hi2.out]; omega); omega
    have hC2 : Cuts pb sb vb V whole w w3 sb2 cap2 l2 := by
      obtain ⟨_, a2, a3, a4, a5, a6⟩ := hC.out
      refine ⟨hp2, ?_, a3.trans (hm2.mono fun k _ h => .inl (.inl h)), (hm2.block vb (blk_lt a4) a5).trans a4, a5, ?_⟩
      · rcases hs2 with h | h
        · rw [h]; exact a2
        · exact .inr (Nat.le_trans a3.size h)
      · rcases hs2 with h | h
        · rw [h]; exact a6
        · have := blk_lt a4; omega
    have hrel0 : (to < 1099511627776 ∧ CutRel l1 to n l2) ∨ (to = 1099511627776 ∧ l2 = l1 ∧ n = l1.length) := .inl ⟨hto, hc2⟩
    have hlen2 := hl2.len
    replace hC2 := Lib.hid hC2; replace hrel0 := Lib.hid hrel0; replace hl2 := Lib.hid hl2; replace hc2 := Lib.hid hc2; replace hp2 := Lib.hid hp2; replace hs2 := Lib.hid hs2; replace hm2 := Lib.hid hm2
    replace hn2 := Lib.hid hn2; replace hn4 := Lib.hid hn4; replace hn5 := Lib.hid hn5
    clear p4
    go_wp2
    go_loopw [10] (fun k wr => ∃ (a : Nat) (M : List St), i ≤ a ∧ a ≤ n ∧ k = .int .i64 a ∧ Hid (M = mapR g i a l2) ∧ Hid (Cuts pb sb vb V whole w wr sb2 cap2 M)) (fun k _ => n - (intOf k).toNat)
    case atStart => exact ⟨i, l2, Nat.le_refl _, hie, rfl, (mapR_self g i l2).symm, hC2.out⟩
    case round =>
      obtain ⟨a, M, hia, hae, rfl, hM, hCM⟩ := hrel
      obtain ⟨hpM, hsM, hmM, hvM, hnM1, hnM2⟩ := hCM.out
      have hML : M.length = l2.length := by rw [hM.out]; exact mapR_length g i a l2 hia (by omega)
      have q4 := blk_cell hpM.head 4
      have qf := blk_free hpM.head 4
      simp at q4
      have lpb := blk_lt hpM.head
      have lsb := hpM.row.lt
      have lne := hpM.ne
      have hMb : M.length ≤ 1099511627777 := by omega
      by_cases hlt : a < n
      · have hlt' : (a : Int) < n := by omega
        have haM : a < M.length := by omega
        have hlt2 : (a : Int) < M.length := by omega
        have ha0 : (0 : Int) ≤ (a : Int) := by omega
        obtain ⟨c0, c1, c2, c3, c4⟩ := hpM.row.cells (i := a) haM
        have ff := hpM.row.free
        replace hML := Lib.hid hML
        replace hpM := Lib.hid hpM; replace hsM := Lib.hid hsM; replace hmM := Lib.hid hmM; replace hvM := Lib.hid hvM
        replace ff := Lib.hid ff
        have hvD : Hid (wr.drew.heap[vb]? = some (.cells V.cells 23 (0, 0))) := hvM.out
        go_wp2_with fail
        go_region_law
          (first
            | (go_simp
               (with_reducible refine (H.out (nth M a).f _ hvD.out).mono ?_)
               rintro e w4 ⟨rfl, hb4⟩
               replace hb4 := undrew hb4
               have q44 : w4.cell? ⟨pb, 4, none⟩ = some (.slice (some ⟨sb2, 0, none⟩) M.length cap2) := (below_cell hb4 lpb).trans q4
               have d1 := (below_cell hb4 (o := a * 5 + 1) lsb).trans c1
               have d2 := (below_cell hb4 (o := a * 5 + 2) lsb).trans c2
               have d3 := (below_cell hb4 (o := a * 5 + 3) lsb).trans c3
               have d4 := (below_cell hb4 (o := a * 5 + 4) lsb).trans c4
               have f1 : w4.frozen? ⟨sb2, a * 5 + 1, none⟩ = false := (hb4.frozen (p := ⟨sb2, a * 5 + 1, none⟩) lsb).trans (ff.out _)
               have f2 : w4.frozen? ⟨sb2, a * 5 + 2, none⟩ = false := (hb4.frozen (p := ⟨sb2, a * 5 + 2, none⟩) lsb).trans (ff.out _)
               have f3 : w4.frozen? ⟨sb2, a * 5 + 3, none⟩ = false := (hb4.frozen (p := ⟨sb2, a * 5 + 3, none⟩) lsb).trans (ff.out _)
               have f4 : w4.frozen? ⟨sb2, a * 5 + 4, none⟩ = false := (hb4.frozen (p := ⟨sb2, a * 5 + 4, none⟩) lsb).trans (ff.out _)
               replace hb4 := Lib.hid hb4))
        all_goals
          go_wp2
          go_roundw
          case rel =>
            refine ⟨a + 1, M.set a ⟨(nth M a).t, g (nth M a).f⟩, by omega, by omega, by go_num, ?_, cuts_step hCM.out hb4.out a (g (nth M a).f) haM⟩
            show _ = mapR g i (a + 1) l2
            have hx := nth_mapR g i a l2 hia (by omega) a (by have := hML.out; omega)
            rw [if_neg (by omega), ← hM.out] at hx
            rw [mapR_succ g i a l2 hia (by have := hML.out; omega), ← hM.out, hx]
          case measure => simp [intOf]; omega
      · have hlt' : ¬ (a : Int) < n := by omega
        have hea : a = n := by omega
        have hcr : ChangeRel l fr to g (comp M) := ⟨i, l1, n, l2, hc1.out, hrel0.out, by rw [hM.out, hea]⟩
        have hrM := hpM.row
        replace hea := Lib.hid hea; replace hML := Lib.hid hML; replace hcr := Lib.hid hcr
        replace hpM := Lib.hid hpM; replace hsM := Lib.hid hsM; replace hmM := Lib.hid hmM; replace hvM := Lib.hid hvM
        replace hrM := Lib.hid hrM
        go_wp2_with fail
        refine (compact_any sb2 cap2 M wr hrM.out (by omega)).mono ?_
        rintro e w5 ⟨rfl, hrow5, hmod5⟩
        have q45 : w5.cell? ⟨pb, 4, none⟩ = some (.slice (some ⟨sb2, 0, none⟩) M.length cap2) := (World.cell?_of_block (w := wr) (hmod5.block pb lpb lne)).trans q4
        have qf5 : w5.frozen? ⟨pb, 4, none⟩ = false := (World.frozen?_of_block (w := wr) (hmod5.block pb lpb lne)).trans qf
        replace hrow5 := Lib.hid hrow5; replace hmod5 := Lib.hid hmod5
        go_wp2
        go_end0
        exact change_fin hCM.out hcr.out hrow5.out hmod5.out
  · have hto' : to = 1099511627776 := by omega
    have hie : i ≤ l1.length := by omega
    have hC2 := hC
    replace hto' := Lib.hid hto'
    go_wp2
    go_loopw [10] (fun k wr => ∃ (a : Nat) (M : List St), i ≤ a ∧ a ≤ l1.length ∧ k = .int .i64 a ∧ Hid (M = mapR g i a l1) ∧ Hid (Cuts pb sb vb V whole w wr sb1 cap1 M)) (fun k _ => l1.length - (intOf k).toNat)
    case atStart => exact ⟨i, l1, Nat.le_refl _, hie, rfl, (mapR_self g i l1).symm, hC2.out⟩
    case round =>
      obtain ⟨a, M, hia, hae, rfl, hM, hCM⟩ := hrel
      obtain ⟨hpM, hsM, hmM, hvM, hnM1, hnM2⟩ := hCM.out
      have hML : M.length = l1.length := by rw [hM.out]; exact mapR_length g i a l1 hia (by omega)
      have q4 := blk_cell hpM.head 4
      have qf := blk_free hpM.head 4
      simp at q4
      have lpb := blk_lt hpM.head
      have lsb := hpM.row.lt
      have lne := hpM.ne
      have hMb : M.length ≤ 1099511627777 := by omega
      by_cases hlt : a < l1.length
      · have hlt' : (a : Int) < l1.length := by omega
        have haM : a < M.length := by omega
        have hlt2 : (a : Int) < M.length := by omega
        have ha0 : (0 : Int) ≤ (a : Int) := by omega
        obtain ⟨c0, c1, c2, c3, c4⟩ := hpM.row.cells (i := a) haM
        have ff := hpM.row.free
        replace hML := Lib.hid hML
        replace hpM := Lib.hid hpM; replace hsM := Lib.hid hsM; replace hmM := Lib.hid hmM; replace hvM := Lib.hid hvM
        replace ff := Lib.hid ff
        have hvD : Hid (wr.drew.heap[vb]? = some (.cells V.cells 23 (0, 0))) := hvM.out
        go_wp2_with fail
        go_region_law
          (first
            | (go_simp
               (with_reducible refine (H.out (nth M a).f _ hvD.out).mono ?_)
               rintro e w4 ⟨rfl, hb4⟩
               replace hb4 := undrew hb4
               have q44 : w4.cell? ⟨pb, 4, none⟩ = some (.slice (some ⟨sb1, 0, none⟩) M.length cap1) := (below_cell hb4 lpb).trans q4
               have d1 := (below_cell hb4 (o := a * 5 + 1) lsb).trans c1
               have d2 := (below_cell hb4 (o := a * 5 + 2) lsb).trans c2
               have d3 := (below_cell hb4 (o := a * 5 + 3) lsb).trans c3
               have d4 := (below_cell hb4 (o := a * 5 + 4) lsb).trans c4
               have f1 : w4.frozen? ⟨sb1, a * 5 + 1, none⟩ = false := (hb4.frozen (p := ⟨sb1, a * 5 + 1, none⟩) lsb).trans (ff.out _)
               have f2 : w4.frozen? ⟨sb1, a * 5 + 2, none⟩ = false := (hb4.frozen (p := ⟨sb1, a * 5 + 2, none⟩) lsb).trans (ff.out _)
               have f3 : w4.frozen? ⟨sb1, a * 5 + 3, none⟩ = false := (hb4.frozen (p := ⟨sb1, a * 5 + 3, none⟩) lsb).trans (ff.out _)
               have f4 : w4.frozen? ⟨sb1, a * 5 + 4, none⟩ = false := (hb4.frozen (p := ⟨sb1, a * 5 + 4, none⟩) lsb).trans (ff.out _)
               replace hb4 := Lib.hid hb4))
        all_goals
          go_wp2
          go_roundw
          case rel =>
            refine ⟨a + 1, M.set a ⟨(nth M a).t, g (nth M a).f⟩, by omega, by omega, by go_num, ?_, cuts_step hCM.out hb4.out a (g (nth M a).f) haM⟩
            show _ = mapR g i (a + 1) l1
            have hx := nth_mapR g i a l1 hia (by omega) a (by have := hML.out; omega)
            rw [if_neg (by omega), ← hM.out] at hx
            rw [mapR_succ g i a l1 hia (by have := hML.out; omega), ← hM.out, hx]
          case measure => simp [intOf]; omega
      · have hlt' : ¬ (a : Int) < l1.length := by omega
        have hea : a = l1.length := by omega
        have hcr : ChangeRel l fr to g (comp M) := ⟨i, l1, l1.length, l1, hc1.out, (.inr ⟨hto'.out, rfl, rfl⟩), by rw [hM.out, hea]⟩
        have hrM := hpM.row
        replace hea := Lib.hid hea; replace hML := Lib.hid hML; replace hcr := Lib.hid hcr
        replace hpM := Lib.hid hpM; replace hsM := Lib.hid hsM; replace hmM := Lib.hid hmM; replace hvM := Lib.hid hvM
        replace hrM := Lib.hid hrM
        go_wp2_with fail
        refine (compact_any sb1 cap1 M wr hrM.out (by omega)).mono ?_
        rintro e w5 ⟨rfl, hrow5, hmod5⟩
        have q45 : w5.cell? ⟨pb, 4, none⟩ = some (.slice (some ⟨sb1, 0, none⟩) M.length cap1) := (World.cell?_of_block (w := wr) (hmod5.block pb lpb lne)).trans q4
        have qf5 : w5.frozen? ⟨pb, 4, none⟩ = false := (World.frozen?_of_block (w := wr) (hmod5.block pb lpb lne)).trans qf
        replace hrow5 := Lib.hid hrow5; replace hmod5 := Lib.hid hmod5
        go_wp2
        go_end0
        exact change_fin hCM.out hcr.out hrow5.out hmod5.out
end Go.Proofs.Ytpjajiambbobhaa
