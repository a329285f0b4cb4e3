/- A pool under any script tells what the document tells, step by step, or its errors: for every input the law returns true, and each argument reads behind the call as it read before. No condition. -/
import Derived.Test.YtpjajiambbobhaaRefd
import Derived.Test.YtpjajiambbobhaaGfirst
import Derived.Test.YtpjajiambbobhaaGawake
import Derived.Test.YtpjajiambbobhaaOpeo
import Derived.Test.YtpjajiambbobhaaRows
/- corveelaw07.done: an act over both, a pool and the document's; they answer the same. -/
namespace Go.Proofs.Ytpjajiambbobhaa
open Go.RowKit

/-- what stands throughout -/
structure DW (w : World) (sv : Value) (a : Actg) (wr : World) : Prop where
  p : wr.heap[w.heap.size]? = some (.cells #[sv] 67 (0, 0))
  box : wr.heap[w.heap.size + 1]? = some a.obj
  r : wr.heap[w.heap.size + 1 + 1]? = some (.cells #[.slice none 0 0] 67 (0, 0))
  ok : a.ok wr
theorem DW.below {w wr w' : World} {sv : Value} {a : Actg} (h : DW w sv a wr) (hb : Below wr.heap.size wr w') : DW w sv a w' :=
  ⟨blk_below hb h.p (blk_lt h.p), blk_below hb h.box (blk_lt h.box), blk_below hb h.r (blk_lt h.r), h.ok.below hb⟩
theorem DW.mod {w wr w' : World} {sv : Value} {a : Actg} {S : Nat → Prop} (h : DW w sv a wr) (hm : Mod S wr w') (hs : ∀ b, S b → b < w.heap.size) (ho : 0 < a.n → Off a.ao S) : DW w sv a w' :=
  ⟨(hm.block _ (blk_lt h.p) (fun c => by have := hs _ c; omega)).trans h.p, (hm.block _ (blk_lt h.box) (fun c => by have := hs _ c; omega)).trans h.box, (hm.block _ (blk_lt h.r) (fun c => by have := hs _ c; omega)).trans h.r, h.ok.1.mod hm ho, h.ok.2⟩

theorem Mod.of_belowS {S : Nat → Prop} {w w' : World} (h : Below w.heap.size w w') : Mod S w w' := ⟨h.os, h.tape, h.output, h.size, fun b hb _ => h.block b hb⟩
theorem Mod.comp {S : Nat → Prop} {w w1 w2 : World} (h : Mod S w w1) (k : Mod S w1 w2) : Mod S w w2 :=
  ⟨k.os.trans h.os, k.tape.trans h.tape, k.output.trans h.output, Nat.le_trans h.size k.size, fun b hb hS => (k.block b (Nat.lt_of_lt_of_le hb h.size) hS).trans (h.block b hb hS)⟩

def DonePost (gb gs cap : Nat) (po : Option Addr) (ps : List Nd) (N : Nat) (w : World) (e : Ending) (w' : World) : Prop :=
  ∃ sv rs ps', e = .returned (.tuple #[.agg #[sv], .bool true]) ∧ Pool w' gb gs po cap ps' ∧ RPool w' sv rs ps' N ∧ Kin w ps ps' ∧ Mod (Mine ps) w w'

theorem DonePost.alloc {gb gs cap N : Nat} {po : Option Addr} {ps : List Nd} {w w' : World} {e : Ending} (h : DonePost gb gs cap po ps N w e w') (o : Obj) : DonePost gb gs cap po ps N w e (w'.alloc o) := by
  obtain ⟨sv, rs, ps', he, h1, h2, h3, h4⟩ := h
  have hb : Below w'.heap.size w' (w'.alloc o) := (Below.refl _ _).alloc (Nat.le_refl _) o
  exact ⟨sv, rs, ps', he, h1.below hb, h2.below hb (Nat.le_refl _), h3, h4.comp (Mod.of_belowS hb)⟩
theorem done_fin {gb gs cap N n : Nat} {po : Option Addr} {ps ps' : List Nd} {rs : List Rp} {w wr W : World} {so : Option Addr} {sc : Nat} (hp : Pool wr gb gs po cap ps') (hr : RRow wr (.slice so n sc) rs) (hR : wr.heap[w.heap.size + 1 + 1]? = some (.cells #[.slice none 0 0] 67 (0, 0)))
    (hm : Mod (Mine ps) w wr) (hk : Kin W ps ps') (hs : w.heap.size ≤ W.heap.size) (ht : Twin rs ps' N) :
    DonePost gb gs cap po ps N w (.returned (.tuple #[.agg #[.slice so n sc], .bool true])) (wr.setCell ⟨w.heap.size + 1 + 1, 0, none⟩ (.slice so n sc)) := by
  have hkw := hk.back hs
  have hmine : ∀ b, Mine ps' b → b ≠ w.heap.size + 1 + 1 := fun b hb e => by
    obtain ⟨i, hi, c | c⟩ := hb
    · have := (hp.prof i hi).head
      rw [← c, e, hR] at this
      simp at this
    · obtain ⟨cur2, h3, _⟩ := (hp.prof i hi).row.blk
      rw [← c, e, hR] at h3
      simp at h3
  have hgb : gb ≠ w.heap.size + 1 + 1 → Pool (wr.setCell ⟨w.heap.size + 1 + 1, 0, none⟩ (.slice so n sc)) gb gs po cap ps' → DonePost gb gs cap po ps N w (.returned (.tuple #[.agg #[.slice so n sc], .bool true])) (wr.setCell ⟨w.heap.size + 1 + 1, 0, none⟩ (.slice so n sc)) := fun _ h =>
    ⟨_, rs, ps', rfl, h, ht.pool (hr.setQ hR _), hkw, ⟨hm.os, hm.tape, hm.output, by simpa [World.setCell] using hm.size, fun b hb hS => (Below.heap_setCell _ _ _ _ (by show b ≠ w.heap.size + 1 + 1; omega)).trans (hm.block b hb hS)⟩⟩
  have h1 : gb ≠ w.heap.size + 1 + 1 := fun e => by have := hp.head; rw [e, hR] at this; simp at this
  refine hgb h1 ⟨(Below.heap_setCell _ _ _ _ h1).trans hp.head, hp.addr, fun i hi => ?_, fun i hi => ?_, hp.inv, hp.apart, hp.own, hp.few⟩
  · have h2 : gs ≠ w.heap.size + 1 + 1 := fun e => by
      have := hp.ptr i hi
      rw [e, blk_cell hR i] at this
      cases i with
      | zero => simp at this
      | succ i => simp at this
    exact (World.cell?_of_block (a := ⟨gs, i, none⟩) (w := wr) (Below.heap_setCell _ _ _ _ h2)).trans (hp.ptr i hi)
  · have hq := hp.prof i hi
    exact ⟨(Below.heap_setCell _ _ _ _ (hmine _ ⟨i, hi, .inl rfl⟩)).trans hq.head, hq.row.of_block (Below.heap_setCell _ _ _ _ (hmine _ ⟨i, hi, .inr rfl⟩)), hq.ne⟩

set_option maxRecDepth 100000 in
set_option maxHeartbeats 6400000 in
theorem done_any (gb gs cap : Nat) (po : Option Addr) (ps : List Nd) (sv : Value) (rs : List Rp) (N : Nat) (a : Actg) (w : World) (hp : Pool w gb gs po cap ps) (hr : RPool w sv rs ps N) (hN : N ≤ 80000) (hok : a.ok w) (hoff : 0 < a.n → Off a.ao (Mine ps)) :
    Calls Try.prog 45 #[.pointer (some ⟨gb, 0, none⟩), .agg #[sv], a.val] w (DonePost gb gs cap po ps (N + 1) w) := by
  obtain ⟨qo, qc, rfl, _⟩ := hr.row.form
  obtain ⟨n, hnn⟩ : ∃ n, n = rs.length := ⟨_, rfl⟩
  rw [← hnn] at hr ⊢
  obtain ⟨W, hW⟩ : ∃ W, W = ((w.alloc (.cells #[.slice qo n qc] 67 (0, 0))).alloc a.obj).alloc (.cells #[.slice none 0 0] 67 (0, 0)) := ⟨_, rfl⟩
  have hB0 : Below w.heap.size w W := by rw [hW]; exact below3w w _ _ _
  have hD0 : DW w (.slice qo n qc) a W := by
    refine ⟨?_, ?_, ?_, hok.below hB0⟩
    · rw [hW]; exact blk_old _ (blk_old _ (blk_new _ _))
    · rw [hW]; exact blk_old _ (blk_at _ _ (by simp))
    · rw [hW]; exact blk_at _ _ (by simp)
  have hPW := hp.below hB0
  have hRW := hr.below hB0 (Nat.le_refl _)
  have hml : ∀ b, Mine ps b → b < w.heap.size := fun b hb => hp.mine_lt hb
  have hinv := hp.inv
  have hfew := hp.few
  have htk := gtake_any gb gs cap po ps a.ao a.n a.c a.zs a.fr a.tt a.v W hPW hD0.ok.1 hoff hD0.ok.2
  have hgv := ggive_any gb gs cap po ps a.ao a.n a.c a.zs a.fr a.tt a.v W hPW hD0.ok.1 hoff hD0.ok.2
  have hop : ∀ W', Below W.heap.size W W' → Calls Try.prog 42 #[.pointer (some ⟨gb, 0, none⟩), .slice a.ao a.n a.c, .int .i64 a.fr, .int .i64 a.tt, a.v.val] W' (OpenPost ps a.zs a.v a.fr a.tt W') := fun W' h => openg_any gb gs cap po ps a.ao a.n a.c a.zs a.fr a.tt a.v W' (hPW.below h) (hD0.ok.1.below h (Nat.le_refl _))
  have hro : ∀ W', Below W.heap.size W W' → Calls Try.prog 78 #[.agg #[.slice qo n qc], .slice a.ao a.n a.c, .int .i64 a.fr, .int .i64 a.tt, a.v.val] W' (OpenPost ps a.zs a.v a.fr a.tt W') := fun W' h => ropen_any (.slice qo n qc) rs ps N a.ao a.n a.c a.zs a.fr a.tt a.v W' (hRW.below h (Nat.le_refl _)) (hD0.ok.1.below h (Nat.le_refl _)) (by omega) hfew
  have hfi := find_any gb gs cap po ps a.ao a.n a.c a.zs a.many a.v a.tt a.fr W hPW hD0.ok.1
  obtain ⟨x1, x2, x3, x4, x5, x6, x7, x8⟩ := actg_cells hD0.box
  have x0 := blk_cell hD0.box 0
  simp at x0
  have g0 := blk_cell hD0.p 0
  simp at g0
  have lp := blk_lt hD0.p; have lb := blk_lt hD0.box; have lr := blk_lt hD0.r
  have hW2 := hW
  rw [hW] at htk hgv hfi
  obtain ⟨K, hK⟩ : ∃ K, Go.bits BinOp.and .i64 a.kind 7 = K := ⟨_, rfl⟩
  replace hp := Lib.hid hp; replace hr := Lib.hid hr; replace hN := Lib.hid hN; replace hok := Lib.hid hok; replace hoff := Lib.hid hoff; replace hnn := Lib.hid hnn; replace hW := Lib.hid hW; replace hW2 := Lib.hid hW2; replace hB0 := Lib.hid hB0; replace hD0 := Lib.hid hD0; replace hPW := Lib.hid hPW; replace hRW := Lib.hid hRW
  replace hml := Lib.hid hml; replace hinv := Lib.hid hinv; replace hfew := Lib.hid hfew; replace htk := Lib.hid htk; replace hgv := Lib.hid hgv; replace hop := Lib.hid hop; replace hro := Lib.hid hro; replace hfi := Lib.hid hfi
  clear x0 x1 x2 x3 x4 x5 x6 x7 x8 g0 lp lb lr
  by_cases k0 : K = 0
  · have d0 : (K == 0) = true := by simpa using k0
    replace k0 := Lib.hid k0
    go_enter Try.func45, Try.ntmps45
    go_wp2_with fail
    refine htk.out.mono ?_
    rintro e w4 ⟨r4, ps4, rfl, hT4, hp4, hk4, hm4⟩
    rw [← hW.out] at hk4 hm4
    have hD4 := hD0.out.mod hm4 hml.out hoff.out
    have hR4 : RPool w4 (.slice qo n qc) rs ps N := hRW.out.mod hPW.out hm4
    have hch := rchg_any false (.slice qo n qc) rs ps N a.ao a.n a.c a.zs a.fr a.tt a.v w4 hR4 hD4.ok.1 (by have := hN.out; omega) hfew.out
    obtain ⟨x1, x2, x3, x4, x5, x6, x7, x8⟩ := actg_cells hD4.box
    have g0 := blk_cell hD4.p 0
    simp at g0
    have lp := blk_lt hD4.p; have lb := blk_lt hD4.box
    replace hT4 := Lib.hid hT4; replace hp4 := Lib.hid hp4; replace hk4 := Lib.hid hk4; replace hm4 := Lib.hid hm4; replace hD4 := Lib.hid hD4; replace hR4 := Lib.hid hR4; replace hch := Lib.hid hch
    go_wp2_with fail
    refine hch.out.mono ?_
    rintro e w5 ⟨r5, s5, rs5, rfl, hC5, hr5, hb5⟩
    obtain ⟨hrr, htw⟩ := took_chg hR4.out.twin hk4.out.len hk4.out.whole hp4.out.inv hT4.out hC5
    subst hrr
    obtain ⟨so5, sc5, rfl, _⟩ := hr5.1.form
    have hD5 := hD4.out.below hb5
    have r0 := blk_cell hD5.r 0
    have fr0 := blk_free hD5.r 0
    simp at r0
    have lr := blk_lt hD5.r
    have hp5 := hp4.out.below hb5
    have hmm : Mod (Mine ps) w w5 := ((Mod.of_belowS hB0.out).comp hm4.out).comp (Mod.of_belowS hb5)
    have hdone := (done_fin hp5 hr5 hD5.r hmm hk4.out hB0.out.size htw).alloc (.cells #[.slice so5 rs5.length sc5] 67 (0, 0))
    have hres : ((w5.setCell ⟨w.heap.size + 1 + 1, 0, none⟩ (.slice so5 rs5.length sc5)).alloc (.cells #[.slice so5 rs5.length sc5] 67 (0, 0))).cell? ⟨w.heap.size + 1 + 1, 0, none⟩ = some (.slice so5 rs5.length sc5) := by
      rw [blk_cell (blk_old _ (blk_set hD5.r 0 (.slice so5 rs5.length sc5))) 0]
      rfl
    replace htw := Lib.hid htw; replace hr5 := Lib.hid hr5; replace hD5 := Lib.hid hD5; replace hp5 := Lib.hid hp5; replace hmm := Lib.hid hmm; replace hb5 := Lib.hid hb5; replace hC5 := Lib.hid hC5; replace hdone := Lib.hid hdone
    clear x1 x2 x3 x4 x5 x6 x7 x8 g0 lp lb
    go_wp2
    refine bodyPost_ret (v := .tuple #[.agg #[.slice so5 rs5.length sc5], .bool true]) (by simp [results, Try.results45, go_sem, hres]) rfl ?_
    exact hdone.out
  have d0 : (K == 0) = false := by simpa using k0
  by_cases k1 : K = 1
  · have d1 : (K == 1) = true := by simpa using k1
    replace k0 := Lib.hid k0; replace k1 := Lib.hid k1
    go_enter Try.func45, Try.ntmps45
    go_wp2_with fail
    refine htk.out.mono ?_
    rintro e w4 ⟨r4, ps4, rfl, hT4, hp4, hk4, hm4⟩
    rw [← hW.out] at hk4 hm4
    have hD4 := hD0.out.mod hm4 hml.out hoff.out
    have hR4 : RPool w4 (.slice qo n qc) rs ps N := hRW.out.mod hPW.out hm4
    have hch := rchg_any false (.slice qo n qc) rs ps N a.ao a.n a.c a.zs a.fr a.tt a.v w4 hR4 hD4.ok.1 (by have := hN.out; omega) hfew.out
    obtain ⟨x1, x2, x3, x4, x5, x6, x7, x8⟩ := actg_cells hD4.box
    have g0 := blk_cell hD4.p 0
    simp at g0
    have lp := blk_lt hD4.p; have lb := blk_lt hD4.box
    replace hT4 := Lib.hid hT4; replace hp4 := Lib.hid hp4; replace hk4 := Lib.hid hk4; replace hm4 := Lib.hid hm4; replace hD4 := Lib.hid hD4; replace hR4 := Lib.hid hR4; replace hch := Lib.hid hch
    go_wp2_with fail
    refine hch.out.mono ?_
    rintro e w5 ⟨r5, s5, rs5, rfl, hC5, hr5, hb5⟩
    obtain ⟨hrr, htw⟩ := took_chg hR4.out.twin hk4.out.len hk4.out.whole hp4.out.inv hT4.out hC5
    subst hrr
    obtain ⟨so5, sc5, rfl, _⟩ := hr5.1.form
    have hD5 := hD4.out.below hb5
    have r0 := blk_cell hD5.r 0
    have fr0 := blk_free hD5.r 0
    simp at r0
    have lr := blk_lt hD5.r
    have hp5 := hp4.out.below hb5
    have hmm : Mod (Mine ps) w w5 := ((Mod.of_belowS hB0.out).comp hm4.out).comp (Mod.of_belowS hb5)
    have hdone := (done_fin hp5 hr5 hD5.r hmm hk4.out hB0.out.size htw).alloc (.cells #[.slice so5 rs5.length sc5] 67 (0, 0))
    have hres : ((w5.setCell ⟨w.heap.size + 1 + 1, 0, none⟩ (.slice so5 rs5.length sc5)).alloc (.cells #[.slice so5 rs5.length sc5] 67 (0, 0))).cell? ⟨w.heap.size + 1 + 1, 0, none⟩ = some (.slice so5 rs5.length sc5) := by
      rw [blk_cell (blk_old _ (blk_set hD5.r 0 (.slice so5 rs5.length sc5))) 0]
      rfl
    replace htw := Lib.hid htw; replace hr5 := Lib.hid hr5; replace hD5 := Lib.hid hD5; replace hp5 := Lib.hid hp5; replace hmm := Lib.hid hmm; replace hb5 := Lib.hid hb5; replace hC5 := Lib.hid hC5; replace hdone := Lib.hid hdone
    clear x1 x2 x3 x4 x5 x6 x7 x8 g0 lp lb
    go_wp2
    refine bodyPost_ret (v := .tuple #[.agg #[.slice so5 rs5.length sc5], .bool true]) (by simp [results, Try.results45, go_sem, hres]) rfl ?_
    exact hdone.out
  have d1 : (K == 1) = false := by simpa using k1
  by_cases k2 : K = 2
  · have d2 : (K == 2) = true := by simpa using k2
    replace k0 := Lib.hid k0; replace k1 := Lib.hid k1; replace k2 := Lib.hid k2
    go_enter Try.func45, Try.ntmps45
    go_wp2_with fail
    refine htk.out.mono ?_
    rintro e w4 ⟨r4, ps4, rfl, hT4, hp4, hk4, hm4⟩
    rw [← hW.out] at hk4 hm4
    have hD4 := hD0.out.mod hm4 hml.out hoff.out
    have hR4 : RPool w4 (.slice qo n qc) rs ps N := hRW.out.mod hPW.out hm4
    have hch := rchg_any false (.slice qo n qc) rs ps N a.ao a.n a.c a.zs a.fr a.tt a.v w4 hR4 hD4.ok.1 (by have := hN.out; omega) hfew.out
    obtain ⟨x1, x2, x3, x4, x5, x6, x7, x8⟩ := actg_cells hD4.box
    have g0 := blk_cell hD4.p 0
    simp at g0
    have lp := blk_lt hD4.p; have lb := blk_lt hD4.box
    replace hT4 := Lib.hid hT4; replace hp4 := Lib.hid hp4; replace hk4 := Lib.hid hk4; replace hm4 := Lib.hid hm4; replace hD4 := Lib.hid hD4; replace hR4 := Lib.hid hR4; replace hch := Lib.hid hch
    go_wp2_with fail
    refine hch.out.mono ?_
    rintro e w5 ⟨r5, s5, rs5, rfl, hC5, hr5, hb5⟩
    obtain ⟨hrr, htw⟩ := took_chg hR4.out.twin hk4.out.len hk4.out.whole hp4.out.inv hT4.out hC5
    subst hrr
    obtain ⟨so5, sc5, rfl, _⟩ := hr5.1.form
    have hD5 := hD4.out.below hb5
    have r0 := blk_cell hD5.r 0
    have fr0 := blk_free hD5.r 0
    simp at r0
    have lr := blk_lt hD5.r
    have hp5 := hp4.out.below hb5
    have hmm : Mod (Mine ps) w w5 := ((Mod.of_belowS hB0.out).comp hm4.out).comp (Mod.of_belowS hb5)
    have hdone := (done_fin hp5 hr5 hD5.r hmm hk4.out hB0.out.size htw).alloc (.cells #[.slice so5 rs5.length sc5] 67 (0, 0))
    have hres : ((w5.setCell ⟨w.heap.size + 1 + 1, 0, none⟩ (.slice so5 rs5.length sc5)).alloc (.cells #[.slice so5 rs5.length sc5] 67 (0, 0))).cell? ⟨w.heap.size + 1 + 1, 0, none⟩ = some (.slice so5 rs5.length sc5) := by
      rw [blk_cell (blk_old _ (blk_set hD5.r 0 (.slice so5 rs5.length sc5))) 0]
      rfl
    replace htw := Lib.hid htw; replace hr5 := Lib.hid hr5; replace hD5 := Lib.hid hD5; replace hp5 := Lib.hid hp5; replace hmm := Lib.hid hmm; replace hb5 := Lib.hid hb5; replace hC5 := Lib.hid hC5; replace hdone := Lib.hid hdone
    clear x1 x2 x3 x4 x5 x6 x7 x8 g0 lp lb
    go_wp2
    refine bodyPost_ret (v := .tuple #[.agg #[.slice so5 rs5.length sc5], .bool true]) (by simp [results, Try.results45, go_sem, hres]) rfl ?_
    exact hdone.out
  have d2 : (K == 2) = false := by simpa using k2
  by_cases k3 : K = 3
  · have d3 : (K == 3) = true := by simpa using k3
    replace k0 := Lib.hid k0; replace k1 := Lib.hid k1; replace k2 := Lib.hid k2; replace k3 := Lib.hid k3
    go_enter Try.func45, Try.ntmps45
    go_wp2_with fail
    refine hgv.out.mono ?_
    rintro e w4 ⟨r4, ps4, rfl, hT4, hp4, hk4, hm4⟩
    rw [← hW.out] at hk4 hm4
    have hD4 := hD0.out.mod hm4 hml.out hoff.out
    have hR4 : RPool w4 (.slice qo n qc) rs ps N := hRW.out.mod hPW.out hm4
    have hch := rchg_any true (.slice qo n qc) rs ps N a.ao a.n a.c a.zs a.fr a.tt a.v w4 hR4 hD4.ok.1 (by have := hN.out; omega) hfew.out
    obtain ⟨x1, x2, x3, x4, x5, x6, x7, x8⟩ := actg_cells hD4.box
    have g0 := blk_cell hD4.p 0
    simp at g0
    have lp := blk_lt hD4.p; have lb := blk_lt hD4.box
    replace hT4 := Lib.hid hT4; replace hp4 := Lib.hid hp4; replace hk4 := Lib.hid hk4; replace hm4 := Lib.hid hm4; replace hD4 := Lib.hid hD4; replace hR4 := Lib.hid hR4; replace hch := Lib.hid hch
    go_wp2_with fail
    refine hch.out.mono ?_
    rintro e w5 ⟨r5, s5, rs5, rfl, hC5, hr5, hb5⟩
    obtain ⟨hrr, htw⟩ := gave_chg hR4.out.twin hk4.out.len hk4.out.whole hp4.out.inv hT4.out hC5
    subst hrr
    obtain ⟨so5, sc5, rfl, _⟩ := hr5.1.form
    have hD5 := hD4.out.below hb5
    have r0 := blk_cell hD5.r 0
    have fr0 := blk_free hD5.r 0
    simp at r0
    have lr := blk_lt hD5.r
    have hp5 := hp4.out.below hb5
    have hmm : Mod (Mine ps) w w5 := ((Mod.of_belowS hB0.out).comp hm4.out).comp (Mod.of_belowS hb5)
    have hdone := (done_fin hp5 hr5 hD5.r hmm hk4.out hB0.out.size htw).alloc (.cells #[.slice so5 rs5.length sc5] 67 (0, 0))
    have hres : ((w5.setCell ⟨w.heap.size + 1 + 1, 0, none⟩ (.slice so5 rs5.length sc5)).alloc (.cells #[.slice so5 rs5.length sc5] 67 (0, 0))).cell? ⟨w.heap.size + 1 + 1, 0, none⟩ = some (.slice so5 rs5.length sc5) := by
      rw [blk_cell (blk_old _ (blk_set hD5.r 0 (.slice so5 rs5.length sc5))) 0]
      rfl
    replace htw := Lib.hid htw; replace hr5 := Lib.hid hr5; replace hD5 := Lib.hid hD5; replace hp5 := Lib.hid hp5; replace hmm := Lib.hid hmm; replace hb5 := Lib.hid hb5; replace hC5 := Lib.hid hC5; replace hdone := Lib.hid hdone
    clear x1 x2 x3 x4 x5 x6 x7 x8 g0 lp lb
    go_wp2
    refine bodyPost_ret (v := .tuple #[.agg #[.slice so5 rs5.length sc5], .bool true]) (by simp [results, Try.results45, go_sem, hres]) rfl ?_
    exact hdone.out
  have d3 : (K == 3) = false := by simpa using k3
  have htw0 : Twin rs ps (N + 1) := ⟨hRW.out.len, fun i hi => by obtain ⟨_, b, c, d⟩ := hRW.out.one i hi; exact ⟨b, c, by omega⟩⟩
  have hend : Hid (∀ wC, Below W.heap.size W wC → DonePost gb gs cap po ps (N + 1) w (.returned (.tuple #[.agg #[.slice qo n qc], .bool true])) (wC.setCell ⟨w.heap.size + 1 + 1, 0, none⟩ (.slice qo n qc))) := fun wC hb =>
    done_fin (hPW.out.below hb) (hRW.out.rows.below hb (Nat.le_refl _)) (hD0.out.below hb).r (Mod.of_belowS (hB0.out.trans (hb.mono hB0.out.size))) (Kin.refl w ps) (Nat.le_refl _) htw0
  have setc : ∀ (w' : World) (u : Value) (b o : Nat), b ≠ w.heap.size + 1 + 1 → (w'.setCell ⟨w.heap.size + 1 + 1, 0, none⟩ u).cell? ⟨b, o, none⟩ = w'.cell? ⟨b, o, none⟩ := fun w' u b o h => World.cell?_of_block (a := ⟨b, o, none⟩) (w := w') (Below.heap_setCell _ _ _ _ h)
  obtain ⟨x1, x2, x3, x4, x5, x6, x7, x8⟩ := actg_cells hD0.out.box
  have g0 := blk_cell hD0.out.p 0
  simp at g0
  have lp := blk_lt hD0.out.p; have lb := blk_lt hD0.out.box
  have hS0 : Hid (∀ w', Below W.heap.size W w' → w'.cell? ⟨w.heap.size, 0, none⟩ = some (.slice qo n qc) ∧ w'.cell? ⟨w.heap.size + 1, 1, none⟩ = some (.slice a.ao a.n a.c) ∧ w'.cell? ⟨w.heap.size + 1, 2, none⟩ = some (.int .i64 a.fr) ∧ w'.cell? ⟨w.heap.size + 1, 3, none⟩ = some (.int .i64 a.tt) ∧ w'.cell? ⟨w.heap.size + 1, 5, none⟩ = some (.int .i64 a.v.a) ∧ w'.cell? ⟨w.heap.size + 1, 6, none⟩ = some (.int .i64 a.v.b) ∧ w'.cell? ⟨w.heap.size + 1, 7, none⟩ = some (.int .i64 a.v.c) ∧ w'.cell? ⟨w.heap.size + 1, 8, none⟩ = some (.int .i64 a.v.d)) := fun w' h =>
    ⟨(below_cell h lp).trans g0, (below_cell h lb).trans x1, (below_cell h lb).trans x2, (below_cell h lb).trans x3, (below_cell h lb).trans x5, (below_cell h lb).trans x6, (below_cell h lb).trans x7, (below_cell h lb).trans x8⟩
  have hSR : Hid (∀ (w' : World) (u : Value), (w'.cell? ⟨w.heap.size, 0, none⟩ = some (.slice qo n qc) ∧ w'.cell? ⟨w.heap.size + 1, 1, none⟩ = some (.slice a.ao a.n a.c) ∧ w'.cell? ⟨w.heap.size + 1, 2, none⟩ = some (.int .i64 a.fr) ∧ w'.cell? ⟨w.heap.size + 1, 3, none⟩ = some (.int .i64 a.tt) ∧ w'.cell? ⟨w.heap.size + 1, 5, none⟩ = some (.int .i64 a.v.a) ∧ w'.cell? ⟨w.heap.size + 1, 6, none⟩ = some (.int .i64 a.v.b) ∧ w'.cell? ⟨w.heap.size + 1, 7, none⟩ = some (.int .i64 a.v.c) ∧ w'.cell? ⟨w.heap.size + 1, 8, none⟩ = some (.int .i64 a.v.d)) → (w'.setCell ⟨w.heap.size + 1 + 1, 0, none⟩ u).cell? ⟨w.heap.size, 0, none⟩ = some (.slice qo n qc) ∧ (w'.setCell ⟨w.heap.size + 1 + 1, 0, none⟩ u).cell? ⟨w.heap.size + 1, 1, none⟩ = some (.slice a.ao a.n a.c) ∧ (w'.setCell ⟨w.heap.size + 1 + 1, 0, none⟩ u).cell? ⟨w.heap.size + 1, 2, none⟩ = some (.int .i64 a.fr) ∧ (w'.setCell ⟨w.heap.size + 1 + 1, 0, none⟩ u).cell? ⟨w.heap.size + 1, 3, none⟩ = some (.int .i64 a.tt) ∧ (w'.setCell ⟨w.heap.size + 1 + 1, 0, none⟩ u).cell? ⟨w.heap.size + 1, 5, none⟩ = some (.int .i64 a.v.a) ∧ (w'.setCell ⟨w.heap.size + 1 + 1, 0, none⟩ u).cell? ⟨w.heap.size + 1, 6, none⟩ = some (.int .i64 a.v.b) ∧ (w'.setCell ⟨w.heap.size + 1 + 1, 0, none⟩ u).cell? ⟨w.heap.size + 1, 7, none⟩ = some (.int .i64 a.v.c) ∧ (w'.setCell ⟨w.heap.size + 1 + 1, 0, none⟩ u).cell? ⟨w.heap.size + 1, 8, none⟩ = some (.int .i64 a.v.d)) := fun w' u ⟨a0, a1, a2, a3, a4, a5, a6, a7⟩ =>
    ⟨(setc _ _ _ _ (by omega)).trans a0, (setc _ _ _ _ (by omega)).trans a1, (setc _ _ _ _ (by omega)).trans a2, (setc _ _ _ _ (by omega)).trans a3, (setc _ _ _ _ (by omega)).trans a4, (setc _ _ _ _ (by omega)).trans a5, (setc _ _ _ _ (by omega)).trans a6, (setc _ _ _ _ (by omega)).trans a7⟩
  have hcur0 : ∀ X, X = W → Below W.heap.size W X.drew := fun X e => by rw [e]; exact (Below.refl _ _).drew
  clear x1 x2 x3 x4 x5 x6 x7 x8 g0 lp lb
  replace htw0 := Lib.hid htw0; replace setc := Lib.hid setc
  by_cases k4 : K = 4
  · have d4 : (K == 4) = true := by simpa using k4
    have hcur := hcur0 (((w.alloc (.cells #[.slice qo n qc] 67 (0, 0))).alloc (.cells #[.int .i64 a.kind, .slice a.ao a.n a.c, .int .i64 a.fr, .int .i64 a.tt, .int .i64 a.many, .int .i64 a.v.a, .int .i64 a.v.b, .int .i64 a.v.c, .int .i64 a.v.d] 50 (0, 0))).alloc (.cells #[.slice none 0 0] 67 (0, 0))) hW2.out.symm
    replace k0 := Lib.hid k0; replace k1 := Lib.hid k1; replace k2 := Lib.hid k2; replace k3 := Lib.hid k3; replace k4 := Lib.hid k4; replace hcur := Lib.hid hcur
    clear hcur0
    go_enter Try.func45, Try.ntmps45
    go_wp2_with fail
    go_region_held3 (fun w' => w'.cell? ⟨w.heap.size, 0, none⟩ = some (.slice qo n qc) ∧ w'.cell? ⟨w.heap.size + 1, 1, none⟩ = some (.slice a.ao a.n a.c) ∧ w'.cell? ⟨w.heap.size + 1, 2, none⟩ = some (.int .i64 a.fr) ∧ w'.cell? ⟨w.heap.size + 1, 3, none⟩ = some (.int .i64 a.tt) ∧ w'.cell? ⟨w.heap.size + 1, 5, none⟩ = some (.int .i64 a.v.a) ∧ w'.cell? ⟨w.heap.size + 1, 6, none⟩ = some (.int .i64 a.v.b) ∧ w'.cell? ⟨w.heap.size + 1, 7, none⟩ = some (.int .i64 a.v.c) ∧ w'.cell? ⟨w.heap.size + 1, 8, none⟩ = some (.int .i64 a.v.d))
      (first
        | with_reducible exact hS0.out _ hcur.out
        | with_reducible exact hSR.out _ _ (hS0.out _ hcur.out))
      (first
        | (go_at_call 42
           refine (hop.out _ hcur.out).mono ?_
           rintro e wA ⟨sA, nA, cA, rfl, hzA, _, _, hbA⟩
           try (have hzB' := IntsAt.below hzB.out hbA (Nat.le_refl _); replace hzB := Lib.hid hzB')
           replace hcur := Lib.hid (hcur.out.trans (hbA.mono hcur.out.size))
           replace hzA := Lib.hid hzA; replace hbA := Lib.hid hbA)
        | (go_at_call 78
           refine (hro.out _ hcur.out).mono ?_
           rintro e wB ⟨sB, nB, cB, rfl, hzB, _, _, hbB⟩
           try (have hzA' := IntsAt.below hzA.out hbB (Nat.le_refl _); replace hzA := Lib.hid hzA')
           replace hcur := Lib.hid (hcur.out.trans (hbB.mono hcur.out.size))
           replace hzB := Lib.hid hzB; replace hbB := Lib.hid hbB)
        | (go_at_call 41
           refine (samei_any sA sB nA nB cA cB _ _ _ hzA.out hzB.out).mono ?_
           rintro e wC ⟨b, rfl, hbb, hbC⟩
           obtain rfl : b = true := hbb.2 rfl
           replace hcur := Lib.hid (hcur.out.trans (hbC.mono hcur.out.size))
           have hDC := hD0.out.below hcur.out
           have r0 := blk_cell hDC.r 0
           have fr0 := blk_free hDC.r 0
           simp at r0
           replace hDC := Lib.hid hDC; replace hbC := Lib.hid hbC
           clear hbb))
    all_goals
      go_wp2
      refine bodyPost_ret (v := .tuple #[.agg #[.slice qo n qc], .bool true]) (by simp [results, Try.results45, go_sem, r0]) rfl ?_
      exact hend.out _ hcur.out
  have d4 : (K == 4) = false := by simpa using k4
  replace k0 := Lib.hid k0; replace k1 := Lib.hid k1; replace k2 := Lib.hid k2; replace k3 := Lib.hid k3; replace k4 := Lib.hid k4
  clear hcur0
  go_enter Try.func45, Try.ntmps45
  go_wp2_with fail
  refine hfi.out.mono ?_
  rintro e w4 ⟨t4, s4, n4, c4, xs4, is4, rfl, hR4, hz4, _, _, hb4⟩
  rw [← hW.out] at hb4
  have hD4 := hD0.out.below hb4
  have hrf := rfind_any (.slice qo n qc) rs ps N a.ao a.n a.c a.zs a.many a.v a.tt a.fr w4 (hRW.out.below hb4 (Nat.le_refl _)) hD4.ok.1 (by have := hN.out; omega) hfew.out hinv.out
  obtain ⟨x1, x2, x3, x4, x5, x6, x7, x8⟩ := actg_cells hD4.box
  have g0 := blk_cell hD4.p 0
  simp at g0
  have lp := blk_lt hD4.p; have lb := blk_lt hD4.box
  replace hR4 := Lib.hid hR4; replace hz4 := Lib.hid hz4; replace hb4 := Lib.hid hb4; replace hD4 := Lib.hid hD4; replace hrf := Lib.hid hrf
  go_wp2_with fail
  refine hrf.out.mono ?_
  rintro e w5 ⟨t5, s5, n5, c5, xs5, is5, rfl, hR5, hz5, _, _, hb5⟩
  obtain ⟨e1, e2, e3⟩ := hR4.out.same hR5 (fun u => rfl)
  clear hR5
  subst e1; subst e2; subst e3
  have hz45 := hz4.out.below hb5 (Nat.le_refl _)
  have hB5 : Below W.heap.size W w5 := hb4.out.trans (hb5.mono hb4.out.size)
  have hD5 := hD0.out.below hB5
  have hsm := samei_any s4 s5 n4 n5 c4 c5 _ _ w5.drew (hz45.below (Below.refl _ _).drew (Nat.le_refl _)) (hz5.below (Below.refl _ _).drew (Nat.le_refl _))
  have q0 := blk_cell hD5.p 0
  simp at q0
  have lq := blk_lt hD5.p
  have hcur : Below W.heap.size W w5.drew := hB5.drew
  have dt : (t5 == t5) = true := by simp
  clear x1 x2 x3 x4 x5 x6 x7 x8 g0 lp lb
  replace hz45 := Lib.hid hz45; replace hB5 := Lib.hid hB5; replace hD5 := Lib.hid hD5; replace hsm := Lib.hid hsm; replace hcur := Lib.hid hcur; replace hz5 := Lib.hid hz5; replace hb5 := Lib.hid hb5
  cases is5
  all_goals
    go_wp2_with fail
    go_region_held3 (fun w' => w'.cell? ⟨w.heap.size, 0, none⟩ = some (.slice qo n qc))
      (first
        | with_reducible exact (hS0.out _ hcur.out).1
        | with_reducible exact (hSR.out _ _ (hS0.out _ hcur.out)).1)
      (first
        | (go_at_call 41
           refine hsm.out.mono ?_
           rintro e wC ⟨b, rfl, hbb, hbC⟩
           obtain rfl : b = true := hbb.2 rfl
           replace hcur := Lib.hid (hcur.out.trans (hbC.mono hcur.out.size))
           have hDC := hD0.out.below hcur.out
           have r0 := blk_cell hDC.r 0
           have fr0 := blk_free hDC.r 0
           simp at r0
           replace hDC := Lib.hid hDC; replace hbC := Lib.hid hbC
           clear hbb))
    go_wp2
    refine bodyPost_ret (v := .tuple #[.agg #[.slice qo n qc], .bool true]) (by simp [results, Try.results45, go_sem, r0]) rfl ?_
    exact hend.out _ hcur.out
end Go.Proofs.Ytpjajiambbobhaa

/- corveelaw07.GangPlays, walked: it answers true. Conditions: the rows that come in lie in memory. -/
namespace Go.Proofs.Ytpjajiambbobhaa
open Go.RowKit

theorem not_mine {w : World} {gb gs cap b : Nat} {po : Option Addr} {ps : List Nd} {o : Array Value} (hp : Pool w gb gs po cap ps) (hb : w.heap[b]? = some (.cells o 67 (0, 0))) : ¬ Mine ps b := by
  rintro ⟨i, hi, c | c⟩
  · have := (hp.prof i hi).head
    rw [← c, hb] at this
    simp at this
  · obtain ⟨cur2, h3, _⟩ := (hp.prof i hi).row.blk
    rw [← c, hb] at h3
    simp at h3
theorem Pool.setQ {w : World} {gb gs cap b n c : Nat} {po so : Option Addr} {ps : List Nd} (hp : Pool w gb gs po cap ps) (hb : w.heap[b]? = some (.cells #[.slice so n c] 67 (0, 0))) (u : Value) : Pool (w.setCell ⟨b, 0, none⟩ u) gb gs po cap ps := by
  have hm := not_mine hp hb
  have h1 : gb ≠ b := fun e => by have := hp.head; rw [e, hb] at this; simp at this
  refine ⟨(Below.heap_setCell _ _ _ _ h1).trans hp.head, hp.addr, fun i hi => ?_, fun i hi => ?_, hp.inv, hp.apart, hp.own, hp.few⟩
  · have h2 : gs ≠ b := fun e => by
      have := hp.ptr i hi
      rw [e, blk_cell hb i] at this
      cases i with
      | zero => simp at this
      | succ i => simp at this
    exact (World.cell?_of_block (a := ⟨gs, i, none⟩) (w := w) (Below.heap_setCell _ _ _ _ h2)).trans (hp.ptr i hi)
  · have hq := hp.prof i hi
    have a1 : (nd ps i).pb ≠ b := fun e => hm ⟨i, hi, .inl e.symm⟩
    have a2 : (nd ps i).sb ≠ b := fun e => hm ⟨i, hi, .inr e.symm⟩
    exact ⟨(Below.heap_setCell _ _ _ _ a1).trans hq.head, hq.row.of_block (Below.heap_setCell _ _ _ _ a2), hq.ne⟩
theorem RPool.setQ {w : World} {sv : Value} {rs : List Rp} {ps : List Nd} {N b : Nat} {o : Array Value} (h : RPool w sv rs ps N) (hb : w.heap[b]? = some (.cells o 67 (0, 0))) (u : Value) : RPool (w.setCell ⟨b, 0, none⟩ u) sv rs ps N := h.twin.pool (h.rows.setQ hb u)

/-- what an act over both leaves -/
structure XD (gb gs : Nat) (po : Option Addr) (cap : Nat) (q : List Nd) (N : Nat) (wr : World) (xv bv : Value) (wx : World) : Prop where
  ex : ∃ X so n sc rs2 q2, xv = .pointer (some ⟨X, 0, none⟩) ∧ bv = .bool true ∧ Hid (Pool wx gb gs po cap q2) ∧ Hid (RPool wx (.slice so n sc) rs2 q2 N) ∧ Hid (wx.heap[X]? = some (.cells #[.slice so n sc] 67 (0, 0))) ∧ Hid (wr.heap.size ≤ X) ∧ Hid (Kin wr q q2) ∧ Hid (Mod (Mine q) wr wx)

set_option maxRecDepth 100000 in
set_option maxHeartbeats 6400000 in
theorem gplays_any (vo : Option Addr) (n c : Nat) (vs : List V4) (sv : Value) (acts : List Actg) (w : World) (hv : VecsAt w vo n vs) (ha : ActgsAt w sv acts) :
    Calls Try.prog 11 #[.slice vo n c, sv] w fun e w' => e = .returned (.bool true) ∧ Below w.heap.size w w' := by
  obtain ⟨ao, capA, rfl, hal, hac⟩ := ha
  replace hv := Lib.hid hv; replace hac := Lib.hid hac
  go_enter Try.func11, Try.ntmps11
  go_wp2_with fail
  refine (gawake_any w).mono ?_
  rintro e w1 ⟨rfl, hB1⟩
  replace hB1 := Lib.hid hB1
  by_cases q1 : 100 < n
  · have d1 : decide (100 < (n : Int)) = true := by simp; omega
    replace q1 := Lib.hid q1
    go_wp2
    go_ret
    exact ⟨rfl, hB1.out⟩
  have d1 : decide (100 < (n : Int)) = false := by simp; omega
  go_wp2_with fail
  refine (newg_any vo n c vs w1 (hv.out.below hB1.out (Nat.le_refl _))).mono ?_
  rintro e w2 hnew
  have hb2 : Below w1.heap.size w1 w2 := by
    rcases hnew with ⟨_, _, h⟩ | ⟨_, _, _, _, _, _, _, _, _, _, _, _, _, h⟩ <;> exact h
  have hB2 : Below w.heap.size w w2 := hB1.out.trans (hb2.mono hB1.out.size)
  have hri := rright_any vo n c vs w2 (hv.out.below hB2 (Nat.le_refl _))
  replace hB2 := Lib.hid hB2; replace hri := Lib.hid hri; replace hb2 := Lib.hid hb2
  rcases hnew with ⟨hno, rfl, _⟩ | ⟨hn16, hr, gb, gs, po, cap, ps, rfl, hgb, hp2, hlen, hst, hmine, _⟩
  · replace hno := Lib.hid hno
    go_wp2_with fail
    refine hri.out.mono ?_
    rintro e w3 ⟨b, rfl, hb, hb3⟩
    obtain rfl : b = false := by
      cases b
      · rfl
      · exact absurd (hb.1 rfl) hno.out
    have hB3 : Below w.heap.size w w3 := hB2.out.trans (hb3.mono hB2.out.size)
    replace hB3 := Lib.hid hB3; replace hb3 := Lib.hid hb3
    clear hb
    go_wp2
    go_ret
    exact ⟨rfl, hB3.out⟩
  replace hr := Lib.hid hr; replace hp2 := Lib.hid hp2; replace hlen := Lib.hid hlen; replace hst := Lib.hid hst; replace hmine := Lib.hid hmine
  clear hgb
  go_wp2_with fail
  refine hri.out.mono ?_
  rintro e w3 ⟨b, rfl, hb, hb3⟩
  obtain rfl : b = true := hb.2 ⟨hn16, hr.out⟩
  clear hb
  have hB3 : Below w.heap.size w w3 := hB2.out.trans (hb3.mono hB2.out.size)
  have hp3 := hp2.out.below hb3
  have hne := rnew_any vo n c vs w3 (hv.out.below hB3 (Nat.le_refl _)) hn16
  replace hB3 := Lib.hid hB3; replace hb3 := Lib.hid hb3; replace hp3 := Lib.hid hp3; replace hne := Lib.hid hne
  go_wp2_with fail
  refine hne.out.mono ?_
  rintro e w4 ⟨s4, rfl, hr4, hb4⟩
  have hB4 : Below w.heap.size w w4 := hB3.out.trans (hb4.mono hB3.out.size)
  have htw := twin_new hlen.out hr.out hst.out
  have hrp4 := htw.pool (rrow_new hr4)
  obtain ⟨so4, sc4, rfl, _⟩ := hr4.form
  rw [newR_length] at hrp4
  rw [newR_length]
  have hp4 := hp3.out.below hb4
  have hbx : Below w4.heap.size w4 (w4.alloc (.cells #[.slice so4 n sc4] 67 (0, 0))) := (Below.refl _ _).alloc (Nat.le_refl _) _
  have hp5 := hp4.below hbx
  have hr5 := hrp4.below hbx (Nat.le_refl _)
  have hW5 : (w4.alloc (.cells #[.slice so4 n sc4] 67 (0, 0))).heap[w4.heap.size]? = some (.cells #[.slice so4 n sc4] 67 (0, 0)) := blk_new _ _
  have hB5 : Below w.heap.size w (w4.alloc (.cells #[.slice so4 n sc4] 67 (0, 0))) := hB4.alloc hB4.size _
  have hm5 : ∀ b, Mine ps b → w.heap.size ≤ b := fun b hb => Nat.le_trans hB1.out.size (hmine.out b hb)
  obtain ⟨Wb, hWb⟩ : ∃ Wb, Wb = w4.heap.size := ⟨_, rfl⟩
  have lWb : w.heap.size ≤ Wb := by rw [hWb]; exact hB4.size
  rw [← hWb] at hW5
  clear hr4 hbx
  replace hB4 := Lib.hid hB4; replace htw := Lib.hid htw; replace hrp4 := Lib.hid hrp4; replace hp4 := Lib.hid hp4; replace hp5 := Lib.hid hp5; replace hr5 := Lib.hid hr5; replace hW5 := Lib.hid hW5; replace hB5 := Lib.hid hB5; replace hm5 := Lib.hid hm5; replace hb4 := Lib.hid hb4
  go_wp2
  rw [← hWb]
  replace hWb := Lib.hid hWb
  go_loopw [9, 10, 11, 12] (fun i _ _ _ wr => ∃ (k : Nat) (qo : Option Addr) (nq qc : Nat) (rs : List Rp) (q : List Nd), i = .int .i64 k ∧ k ≤ acts.length ∧ k ≤ 20 ∧ Hid (Pool wr gb gs po cap q) ∧ Hid (RPool wr (.slice qo nq qc) rs q k) ∧ Hid (wr.heap[Wb]? = some (.cells #[.slice qo nq qc] 67 (0, 0))) ∧ Hid (∀ b, Mine q b → w.heap.size ≤ b) ∧ Hid (Below w.heap.size w wr)) (fun i _ _ _ _ => acts.length - (intOf i).toNat)
  case atStart => exact ⟨0, so4, n, sc4, newR vs n, ps, rfl, Nat.zero_le _, Nat.zero_le _, hp5.out, hr5.out, hW5.out, hm5.out, hB5.out⟩
  case round =>
    obtain ⟨k, qo, nq, qc, rs, q, rfl, hk, hk20, hP, hR, hW, hM, hB⟩ := hrel
    by_cases hc : k < acts.length ∧ k < 20
    rotate_left
    · have hcg : ¬ (k : Int) < acts.length ∨ ((k : Int) < acts.length ∧ ¬ (k : Int) < 20) := by omega
      replace hc := Lib.hid hc
      rcases hcg with c1 | ⟨c1, c2⟩
      · go_wp2
        go_ret
        exact ⟨rfl, hB.out⟩
      · go_wp2
        go_ret
        exact ⟨rfl, hB.out⟩
    have hc1 : (k : Int) < acts.length := by omega
    have hc2 : (k : Int) < 20 := by omega
    have hk0 : (0 : Int) ≤ (k : Int) := by omega
    have hkl : k < acts.length := hc.1
    have hk20' : k + 1 ≤ 20 := hc.2
    replace hc := Lib.hid hc
    obtain ⟨b, off, rfl, hb, ok, a0, a1, a2, a3, a4, a5, a6, a7, a8⟩ := hac.out k hkl
    obtain ⟨x, hx⟩ : ∃ x, x = actg acts k := ⟨_, rfl⟩
    rw [← hx] at a0 a1 a2 a3 a4 a5 a6 a7 a8 ok
    have b0 := (below_cell hB.out hb).trans a0; have b1 := (below_cell hB.out hb).trans a1; have b2 := (below_cell hB.out hb).trans a2; have b3 := (below_cell hB.out hb).trans a3; have b4 := (below_cell hB.out hb).trans a4
    have b5 := (below_cell hB.out hb).trans a5; have b6 := (below_cell hB.out hb).trans a6; have b7 := (below_cell hB.out hb).trans a7; have b8 := (below_cell hB.out hb).trans a8
    clear a0 a1 a2 a3 a4 a5 a6 a7 a8
    have lb : b < wr.heap.size := Nat.lt_of_lt_of_le hb hB.out.size
    replace hx := Lib.hid hx
    by_cases q2 : 60 < x.n
    · have d2 : decide (60 < (x.n : Int)) = true := by simp; omega
      replace q2 := Lib.hid q2; replace ok := Lib.hid ok
      go_wp2
      go_ret
      exact ⟨rfl, hB.out⟩
    have d2 : decide (60 < (x.n : Int)) = false := by simp; omega
    have hwm := not_mine hP.out hW.out
    have lW := blk_lt hW.out
    have c0 := blk_cell hW.out 0
    simp at c0
    have hoff := off_new ok.1 hM.out
    have hokr := ok.below hB.out
    have hS0 : Hid (∀ w' : World, w'.heap[Wb]? = wr.heap[Wb]? → w'.heap[b]? = wr.heap[b]? → w'.cell? ⟨Wb, 0, none⟩ = some (.slice qo nq qc) ∧ w'.cell? ⟨b, off + k * 9, none⟩ = some (.int .i64 x.kind) ∧ w'.cell? ⟨b, off + k * 9 + 1, none⟩ = some (.slice x.ao x.n x.c) ∧ w'.cell? ⟨b, off + k * 9 + 2, none⟩ = some (.int .i64 x.fr) ∧ w'.cell? ⟨b, off + k * 9 + 3, none⟩ = some (.int .i64 x.tt) ∧ w'.cell? ⟨b, off + k * 9 + 4, none⟩ = some (.int .i64 x.many) ∧ w'.cell? ⟨b, off + k * 9 + 5, none⟩ = some (.int .i64 x.v.a) ∧ w'.cell? ⟨b, off + k * 9 + 6, none⟩ = some (.int .i64 x.v.b) ∧ w'.cell? ⟨b, off + k * 9 + 7, none⟩ = some (.int .i64 x.v.c) ∧ w'.cell? ⟨b, off + k * 9 + 8, none⟩ = some (.int .i64 x.v.d)) := fun w' h1 h2 =>
      ⟨(World.cell?_of_block (a := ⟨Wb, 0, none⟩) (w := wr) h1).trans c0, (World.cell?_of_block (a := ⟨b, _, none⟩) (w := wr) h2).trans b0, (World.cell?_of_block (a := ⟨b, _, none⟩) (w := wr) h2).trans b1, (World.cell?_of_block (a := ⟨b, _, none⟩) (w := wr) h2).trans b2, (World.cell?_of_block (a := ⟨b, _, none⟩) (w := wr) h2).trans b3, (World.cell?_of_block (a := ⟨b, _, none⟩) (w := wr) h2).trans b4, (World.cell?_of_block (a := ⟨b, _, none⟩) (w := wr) h2).trans b5, (World.cell?_of_block (a := ⟨b, _, none⟩) (w := wr) h2).trans b6, (World.cell?_of_block (a := ⟨b, _, none⟩) (w := wr) h2).trans b7, (World.cell?_of_block (a := ⟨b, _, none⟩) (w := wr) h2).trans b8⟩
    have hbm : ¬ Mine q b := fun h => by have := hM.out b h; omega
    have hdn : ∀ W', Below wr.heap.size wr W' → Calls Try.prog 45 #[.pointer (some ⟨gb, 0, none⟩), .agg #[.slice qo nq qc], x.val] W' (DonePost gb gs cap po q (k + 1) W') :=
      fun W' h => done_any gb gs cap po q (.slice qo nq qc) rs k x W' (hP.out.below h) (hR.out.below h (Nat.le_refl _)) (by omega) (hokr.below h) hoff
    have hBd : Below wr.heap.size wr wr.drew := (Below.refl _ _).drew
    have hBz : Below wr.heap.size wr (wr.alloc (.cells #[.slice none 0 0] 67 (0, 0))).drew := ((Below.refl _ _).alloc (Nat.le_refl _) _).drew
    have hml : ∀ b, Mine q b → b < wr.heap.size := fun b h => hP.out.mine_lt h
    replace q2 := Lib.hid q2; replace ok := Lib.hid ok; replace hwm := Lib.hid hwm; replace hoff := Lib.hid hoff; replace hokr := Lib.hid hokr; replace hbm := Lib.hid hbm; replace hdn := Lib.hid hdn; replace hBd := Lib.hid hBd; replace hBz := Lib.hid hBz; replace hml := Lib.hid hml
    go_upto_region 18 with fail
    go_cut [10, 11] from 31 to 102 (fun xv bv wx => XD gb gs po cap q (k + 1) wr xv bv wx)
    case first =>
      go_region_held3 (fun w' => w'.cell? ⟨Wb, 0, none⟩ = some (.slice qo nq qc) ∧ w'.cell? ⟨b, off + k * 9, none⟩ = some (.int .i64 x.kind) ∧ w'.cell? ⟨b, off + k * 9 + 1, none⟩ = some (.slice x.ao x.n x.c) ∧ w'.cell? ⟨b, off + k * 9 + 2, none⟩ = some (.int .i64 x.fr) ∧ w'.cell? ⟨b, off + k * 9 + 3, none⟩ = some (.int .i64 x.tt) ∧ w'.cell? ⟨b, off + k * 9 + 4, none⟩ = some (.int .i64 x.many) ∧ w'.cell? ⟨b, off + k * 9 + 5, none⟩ = some (.int .i64 x.v.a) ∧ w'.cell? ⟨b, off + k * 9 + 6, none⟩ = some (.int .i64 x.v.b) ∧ w'.cell? ⟨b, off + k * 9 + 7, none⟩ = some (.int .i64 x.v.c) ∧ w'.cell? ⟨b, off + k * 9 + 8, none⟩ = some (.int .i64 x.v.d))
        (first
          | with_reducible exact hS0.out _ (hBd.out.block _ lW) (hBd.out.block _ lb)
          | with_reducible exact hS0.out _ (hBz.out.block _ lW) (hBz.out.block _ lb)
          | with_reducible exact hS0.out _ hq1.out hq2.out
          | with_reducible exact hS0.out _ ((Below.heap_alloc _ _ _ lW5).trans hq1.out) ((Below.heap_alloc _ _ _ lb5).trans hq2.out)
          | with_reducible exact hS0.out _ ((Below.heap_setCell _ _ _ _ (Nat.ne_of_lt lW)).trans hq1.out) ((Below.heap_setCell _ _ _ _ (Nat.ne_of_lt lb)).trans hq2.out))
        (first
          | (go_at_call 45
             refine (hdn.out _ hBd.out).mono ?_
             rintro e w5 ⟨s5, rs5, q5, rfl, hp5, hr5, hk5, hm5⟩
             obtain ⟨so5, sc5, rfl, _⟩ := hr5.row.form
             have hq1 : Hid (w5.heap[Wb]? = wr.heap[Wb]?) := hm5.block _ lW hwm.out
             have hq2 : Hid (w5.heap[b]? = wr.heap[b]?) := hm5.block _ lb hbm.out
             have lW5 := Nat.lt_of_lt_of_le lW hm5.size; have lb5 := Nat.lt_of_lt_of_le lb hm5.size
             have hmm : Hid (Mod (Mine q) wr w5) := (Mod.of_belowS hBd.out).comp hm5
             have hkk : Hid (Kin wr q q5) := hk5.back hBd.out.size
             replace hp5 := Lib.hid hp5; replace hr5 := Lib.hid hr5; replace hk5 := Lib.hid hk5; replace hm5 := Lib.hid hm5)
          | (go_at_call 45
             refine (hdn.out _ hBz.out).mono ?_
             rintro e w5 ⟨s5, rs5, q5, rfl, hp5, hr5, hk5, hm5⟩
             obtain ⟨so5, sc5, rfl, _⟩ := hr5.row.form
             have hz5 : w5.heap[wr.heap.size]? = some (.cells #[.slice none 0 0] 67 (0, 0)) := (hm5.block wr.heap.size (by simp) (fun h => Nat.lt_irrefl _ (hml.out _ h))).trans (blk_new wr _)
             have z0 := blk_cell hz5 0
             have fz := blk_free hz5 0
             simp at z0
             have lz := blk_lt hz5
             have hmm : Hid (Mod (Mine q) wr w5) := (Mod.of_belowS hBz.out).comp hm5
             have hq1 : Hid (w5.heap[Wb]? = wr.heap[Wb]?) := hmm.out.block _ lW hwm.out
             have hq2 : Hid (w5.heap[b]? = wr.heap[b]?) := hmm.out.block _ lb hbm.out
             have hkk : Hid (Kin wr q q5) := hk5.back hBz.out.size
             replace hz5 := Lib.hid hz5; replace hp5 := Lib.hid hp5; replace hr5 := Lib.hid hr5; replace hk5 := Lib.hid hk5; replace hm5 := Lib.hid hm5))
      · go_wp2_with fail
        go_meet
        exact ⟨⟨w5.heap.size, so5, _, sc5, rs5, q5, rfl, rfl, hp5.out.below ((Below.refl _ _).alloc (Nat.le_refl _) _), hr5.out.below ((Below.refl _ _).alloc (Nat.le_refl _) _) (Nat.le_refl _), blk_new _ _, hmm.out.size, hkk.out, hmm.out.comp (Mod.of_belowS ((Below.refl _ _).alloc (Nat.le_refl _) _))⟩⟩
      · go_wp2_with fail
        go_meet
        exact ⟨⟨wr.heap.size, so5, _, sc5, rs5, q5, rfl, rfl, hp5.out.setQ hz5.out _, hr5.out.setQ hz5.out _, (by show _ = _; rw [blk_set hz5.out]; rfl), Nat.le_refl _, hkk.out, ⟨hmm.out.os, hmm.out.tape, hmm.out.output, by simpa [World.setCell] using hmm.out.size, fun b hb hS => (Below.heap_setCell _ _ _ _ (Nat.ne_of_lt hb)).trans (hmm.out.block b hb hS)⟩⟩⟩
    case rest =>
      obtain ⟨⟨X, so2, n2, sc2, rs2, q2', rfl, rfl, hp6, hr6, hX6, hXl, hk6, hm6⟩⟩ := hcut
      have hB6 : Below w.heap.size w wc := below_mod hB.out hm6.out hM.out hB.out.size
      have hM6 := kin_low hk6.out hB.out.size hM.out
      have hW6 := (hm6.out.block Wb lW hwm.out).trans hW.out
      have hb6 : wc.heap[b]? = wr.heap[b]? := hm6.out.block b lb hbm.out
      have hne : b ≠ Wb := by omega
      obtain ⟨wd, hwd⟩ : ∃ wd, wd = wc.setCell ⟨Wb, 0, none⟩ (.slice so2 n2 sc2) := ⟨_, rfl⟩
      have hp7 : Pool wd gb gs po cap q2' := by rw [hwd]; exact hp6.out.setQ hW6 _
      have hr7 : RPool wd (.slice so2 n2 sc2) rs2 q2' (k + 1) := by rw [hwd]; exact hr6.out.setQ hW6 _
      have hW7 : wd.heap[Wb]? = some (.cells #[.slice so2 n2 sc2] 67 (0, 0)) := by rw [hwd, blk_set hW6]; rfl
      have hB7 : Below w.heap.size w wd := by rw [hwd]; exact hB6.setCell lWb _
      have hbb : wd.heap[b]? = wr.heap[b]? := by rw [hwd]; exact (Below.heap_setCell _ _ _ _ hne).trans hb6
      have c2 : wd.cell? ⟨b, off + k * 9 + 2, none⟩ = some (.int .i64 x.fr) := (World.cell?_of_block (a := ⟨b, _, none⟩) (w := wr) hbb).trans b2
      have c3 : wd.cell? ⟨b, off + k * 9 + 3, none⟩ = some (.int .i64 x.tt) := (World.cell?_of_block (a := ⟨b, _, none⟩) (w := wr) hbb).trans b3
      have y0 := blk_cell hX6.out 0
      have y1 := blk_cell hW6 0
      have fy := blk_free hW6 0
      simp at y0 y1
      have lX := blk_lt hX6.out; have lW6 := blk_lt hW6
      have lbd : b < wd.heap.size := Nat.lt_of_lt_of_le hb hB7.size
      clear b0 b1 b2 b3 b4 b5 b6 b7 b8 c0
      replace hB6 := Lib.hid hB6; replace hM6 := Lib.hid hM6; replace hW6 := Lib.hid hW6; replace hb6 := Lib.hid hb6; replace hwd := Lib.hid hwd; replace hp7 := Lib.hid hp7; replace hr7 := Lib.hid hr7; replace hW7 := Lib.hid hW7; replace hB7 := Lib.hid hB7; replace hbb := Lib.hid hbb; replace c2 := Lib.hid c2; replace c3 := Lib.hid c3
      go_wp2
      rw [← hwd.out]
      clear y0 y1 fy
      go_loopw [12] (fun i wx => ∃ kk : Int, i = .int .i64 kk ∧ -1 ≤ kk ∧ kk ≤ n + 1 ∧ Hid (Below wd.heap.size wd wx)) (fun i _ => ((n : Int) + 1 - intOf i).toNat)
      case atStart => exact ⟨-1, rfl, by omega, by omega, Below.refl _ _⟩
      case round =>
        obtain ⟨kk, rfl, hk1, hk2, hBx⟩ := hrel
        by_cases hkn : kk ≤ n
        · have hWx := blk_below hBx.out hW7.out (blk_lt hW7.out)
          have c0 := blk_cell hWx 0
          simp at c0
          have lWx := blk_lt hWx
          have d2 := (below_cell hBx.out lbd).trans c2.out
          have d3 := (below_cell hBx.out lbd).trans c3.out
          have lbx : b < wr.heap.size := Nat.lt_of_lt_of_le lbd hBx.out.size
          have hS2 : Hid (∀ w', Below wr.heap.size wr w' → w'.cell? ⟨Wb, 0, none⟩ = some (.slice so2 n2 sc2) ∧ w'.cell? ⟨b, off + k * 9 + 2, none⟩ = some (.int .i64 x.fr) ∧ w'.cell? ⟨b, off + k * 9 + 3, none⟩ = some (.int .i64 x.tt)) := fun w' h => ⟨(below_cell h lWx).trans c0, (below_cell h lbx).trans d2, (below_cell h lbx).trans d3⟩
          have h39 : ∀ fr tt W', Below wr.heap.size wr W' → Calls Try.prog 39 #[.pointer (some ⟨gb, 0, none⟩), .int .i64 kk, .int .i64 fr, .int .i64 tt] W' fun e w' => e = .returned (freeG q2' kk fr tt).val ∧ Below W'.heap.size W' w' :=
            fun fr tt W' h => freeg_any gb gs cap po q2' kk fr tt W' ((hp7.out.below hBx.out).below h)
          have h46 : ∀ fr tt W', Below wr.heap.size wr W' → Calls Try.prog 46 #[.agg #[.slice so2 n2 sc2], .int .i64 kk, .int .i64 fr, .int .i64 tt] W' fun e w' => e = .returned (freeG q2' kk fr tt).val ∧ Below W'.heap.size W' w' :=
            fun fr tt W' h => rpfree_any (.slice so2 n2 sc2) rs2 q2' (k + 1) kk fr tt W' ((hr7.out.below hBx.out (Nat.le_refl _)).below h (Nat.le_refl _)) (by omega)
          have hcur : Below wr.heap.size wr wr.drew := (Below.refl _ _).drew
          have heq1 := eq23 (freeG q2' kk x.fr x.tt) (freeG q2' kk x.fr x.tt)
          have heq2 := eq23 (freeG q2' kk 0 1000) (freeG q2' kk 0 1000)
          simp at heq1 heq2
          replace hWx := Lib.hid hWx; replace h39 := Lib.hid h39; replace h46 := Lib.hid h46; replace hcur := Lib.hid hcur
          go_wp2_with fail
          go_region_held3 (fun w' => w'.cell? ⟨Wb, 0, none⟩ = some (.slice so2 n2 sc2) ∧ w'.cell? ⟨b, off + k * 9 + 2, none⟩ = some (.int .i64 x.fr) ∧ w'.cell? ⟨b, off + k * 9 + 3, none⟩ = some (.int .i64 x.tt))
            (first
              | with_reducible exact hS2.out _ hcur.out)
            (first
              | (go_at_call 39
                 refine (h39.out _ _ _ hcur.out).mono ?_
                 rintro e wN ⟨rfl, hbN⟩
                 replace hcur := Lib.hid (hcur.out.trans (hbN.mono hcur.out.size))
                 replace hbN := Lib.hid hbN)
              | (go_at_call 46
                 refine (h46.out _ _ _ hcur.out).mono ?_
                 rintro e wN ⟨rfl, hbN⟩
                 replace hcur := Lib.hid (hcur.out.trans (hbN.mono hcur.out.size))
                 replace hbN := Lib.hid hbN))
          all_goals
            have hB9 := hBx.out.trans (hcur.out.mono hBx.out.size)
            replace hB9 := Lib.hid hB9
            go_wp2
            go_roundw
            case rel => exact ⟨kk + 1, by go_num, by omega, by omega, hB9.out⟩
            case measure => simp [intOf]; omega
        · have hp8 := hp7.out.below hBx.out
          have hr8 := hr7.out.below hBx.out (Nat.le_refl _)
          have hW8 := blk_below hBx.out hW7.out (blk_lt hW7.out)
          have hB8 := hB7.out.trans (hBx.out.mono hB7.out.size)
          replace hp8 := Lib.hid hp8; replace hr8 := Lib.hid hr8; replace hW8 := Lib.hid hW8; replace hB8 := Lib.hid hB8
          go_wp2
          go_roundw
          case rel => exact ⟨k + 1, so2, n2, sc2, rs2, q2', by go_num, by omega, hk20', hp8.out, hr8.out, hW8.out, hM6.out, hB8.out⟩
          case measure => simp [intOf]; omega
end Go.Proofs.Ytpjajiambbobhaa

/- A pool under any script tells what the document tells, step by step, or its errors: for every input the law returns true, and each argument reads behind the call as it read before. No condition. -/
namespace Go.Proofs.Ytpjajiambbobhaa
open Go.ChangeShapes Go.WideShapes Go.ChangeAt Go.RowKit

set_option maxRecDepth 100000 in
theorem gangPlays_lifted (os : Os) (started : os.Started) (H : Type) (enc : TypeId × Value → H) :
    ReturnsInHanded {} Try.checked os 11 .any (Rows.gangPlaysSpec.pre6 enc Try.prog Try.f11 Rows.gangPlaysRow.domain false) (Rows.gangPlaysSpec.post enc Try.prog Try.f11 false true false false) := by
  refine returnsInHanded_of_change (C := Try.checked) Try.own started (by kernel_rfl) Try.func11
    (ChangeSpec.witness6 (enc := enc) (C := Try.checked) false ⟨#[], #[.slice none 0 0, .slice none 0 0], []⟩ 8 (by kernel_rfl) (by kernel_rfl) (by kernel_rfl) (by kernel_rfl)) ?_
  intro W base args ds gs before hval0 hW hcnd _
  have hval : ∀ (j : Nat) t v, Try.f11.params[j]? = some t → args[j]? = some v → Value.okWide Try.prog W .any base t v := hval0
  have hW' := hW
  obtain ⟨p, q, hA0, hV, rfl, hfz, hnd⟩ := hW
  have hA : DataW.TrodAll enc Try.prog W 0 (fun _ => true) true Try.f11.params.toList args.toList ds p := hA0
  rw [Try.params11] at hA hval
  obtain ⟨v0, v1, d0, d1, p0, p1, rfl, rfl, rfl, h0, h1⟩ := trodAll_two hA
  obtain ⟨rfl, rfl⟩ := trodVars_none hV
  obtain ⟨vo, n, c, vs, rfl, hvs⟩ := open_vecs (hval 0 53 v0 rfl rfl) h0
  obtain ⟨acts, ha⟩ := open_actgs (hval 1 47 v1 rfl rfl) h1
  clear hA0 hval0
  refine (gplays_any vo n c vs v1 acts W hvs ha).mono fun e W' ⟨he, hw⟩ => ?_
  subst he
  refine ⟨_, rfl, post_of_below hW' rfl (fun _ _ _ => ?_) rfl rfl hw ?_⟩
  · have hrt : Try.f11.resultTypes = #[4] := by kernel_rfl
    rw [hrt]
    exact trodAll_mk1 ⟨1, by simp [DataW.trod, Value.cells, Try.underlying4]⟩
  · rw [Try.params11]
    intro t ht
    simp at ht
    rcases ht with rfl | rfl <;> exact ⟨by kernel_rfl, of_decide_eq_true (by kernel_rfl)⟩

theorem gangPlays_holds : Rows.GangPlaysSaid :=
  OpenClaim.holds_of_wide 11 Try.f11 rfl rfl rfl rfl rfl rfl rfl ⟨rfl, rfl, rfl, rfl, rfl⟩ rfl rfl rfl rfl rfl (by kernel_rfl) Try.func11 (by kernel_rfl)
    (of_decide_eq_true (by kernel_rfl)) (by unfold Func.isWrapper; rw [if_neg (by decide +kernel)]; exact ⟨rfl, rfl⟩)
    (fun os started H enc _ => gangPlays_lifted os started H enc)
end Go.Proofs.Ytpjajiambbobhaa
