/- fleet.Read: the fleet of a text. -/
import Derived.Test.YteoihdkaoipocaaDoorRdr
import Derived.Maps.OwnIn
namespace Go.Proofs.YteoihdkaoipocaaDoor
open Go.RowKit Go.Maps Go.Shelf
attribute [local go_sem] Oper.semAt_some

/-- the world ahead of the loop -/
def rdW (w : World) (s : ByteArray) : World :=
  ((((((w.alloc (.cells #[.pointer none] 39 (0, 0))).alloc (.cells #[.int .i64 0] 29 (0, 0))).alloc (.cells #[.int .i64 0] 3 (0, 0))).alloc (.map #[] 0)).alloc (.cells #[.slice none 0 0, .map (some (w.heap.size + 3))] 107 (0, 0))).alloc (.cells #[.pointer (some ⟨w.heap.size + 4, 0, none⟩)] 39 (0, 0))).alloc (.cells #[.string s] 9 (0, 0))
theorem rdW_size (w : World) (s : ByteArray) : (rdW w s).heap.size = w.heap.size + 7 := by simp [rdW]
theorem rdW_low (w : World) (s : ByteArray) : Below w.heap.size w (rdW w s) :=
  (((((((Below.refl _ _).alloc (Nat.le_refl _) _).alloc (by simp) _).alloc (by simp; omega) _).alloc (by simp; omega) _).alloc (by simp; omega) _).alloc (by simp; omega) _).alloc (by simp; omega) _
theorem rdW_box (w : World) (s : ByteArray) : (rdW w s).heap[w.heap.size + 6]? = some (.cells #[.string s] 9 (0, 0)) := by
  unfold rdW; exact blk_at _ _ (by simp)
theorem rdW_start (w : World) (s : ByteArray) (hm : Mx w) : RdI w [] (rdW w s) := by
  refine ⟨⟨.slice none 0 0, [], ⟨?_, ⟨rfl, .inl ⟨rfl, rfl⟩⟩, ?_, fun x hx => by cases hx⟩, rfl, fun x hx => by cases hx⟩, rfl, rdW_low w s, hm.low (rdW_low w s), ?_, ?_, ?_, ?_, by rw [rdW_size]; exact Nat.le_refl _⟩
  · unfold rdW; exact blk_old _ (blk_old _ (blk_at _ _ (by simp)))
  · have h0 := World.ownsMap_made ((((w.alloc (.cells #[.pointer none] 39 (0, 0))).alloc (.cells #[.int .i64 0] 29 (0, 0))).alloc (.cells #[.int .i64 0] 3 (0, 0)))) Tryd.prog 9 (plainElem (H := Unit) Tryd.prog 3)
    have h1 := ((h0.alloc (.cells #[.slice none 0 0, .map (some (w.heap.size + 3))] 107 (0, 0))).alloc (.cells #[.pointer (some ⟨w.heap.size + 4, 0, none⟩)] 39 (0, 0))).alloc (.cells #[.string s] 9 (0, 0))
    simp only [World.size_alloc] at h1
    exact h1
  · unfold rdW; exact blk_old _ (blk_old _ (blk_old _ (blk_old _ (blk_old _ (blk_old _ (blk_new _ _))))))
  · unfold rdW; exact blk_old _ (blk_old _ (blk_old _ (blk_old _ (blk_old _ (blk_at _ _ (by simp))))))
  · unfold rdW; exact blk_old _ (blk_old _ (blk_old _ (blk_old _ (blk_at _ _ (by simp)))))
  · unfold rdW; exact blk_old _ (blk_at _ _ (by simp))
/-- what fleet.Read answers -/
def ReadPost (s : ByteArray) (w : World) (e : Ending) (w' : World) : Prop :=
  ∃ p, e = .returned (.tuple #[.pointer p, .int .i64 (readOf s).2.1, .int .i64 (readOf s).2.2]) ∧ Below w.heap.size w w' ∧
    (((readOf s).2.1 ≠ 0 ∧ p = none) ∨ ((readOf s).2.1 = 0 ∧ p = some ⟨w.heap.size + 4, 0, none⟩ ∧ Flt w' (w.heap.size + 4) (w.heap.size + 3) (w.heap.size + 7) (readOf s).1))
theorem read_long (s : ByteArray) (w : World) (hs : 4096 < s.size) : Calls Tryd.prog 30 #[.string s] w (ReadPost s w) := by
  have hr : readOf s = ([], 2, 0) := if_pos hs
  have d1 : decide ((4096 : Int) < s.size) = true := decide_eq_true (by omega)
  have d1' : decide (4096 < s.size) = true := decide_eq_true (by omega)
  replace hr := Lib.hid hr
  go_enter Tryd.func30, Tryd.ntmps30
  go_wp2
  refine bodyPost_ret (v := .tuple #[.pointer none, .int .i64 2, .int .i64 0]) (by simp [results, Tryd.results30, go_sem]) rfl ?_
  refine ⟨none, by rw [hr.out], ?_, .inl ⟨by rw [hr.out]; decide, rfl⟩⟩
  exact (((Below.refl _ _).alloc (Nat.le_refl _) _).alloc (by simp) _).alloc (by simp; omega) _

set_option maxRecDepth 100000 in
set_option maxHeartbeats 6400000 in
theorem read_short (s : ByteArray) (w : World) (hm : Mx w) (hs : ¬ 4096 < s.size) : Calls Tryd.prog 30 #[.string s] w (ReadPost s w) := by
  have hr : readOf s = readTo [] (linesOf s) := if_neg hs
  have hmm := @run_makeMap Tryd.prog
  have d1 : decide ((4096 : Int) < s.size) = false := decide_eq_false (by omega)
  have d1' : decide (4096 < s.size) = false := decide_eq_false (by omega)
  have hm0 := hm
  replace hr := Lib.hid hr; replace hm0 := Lib.hid hm0; replace hm := Lib.hid hm
  refine (callsIn_wide (n := 8)).1 ?_
  refine callsIn_of_wp_marks Tryd.func30 rfl trivial ?_ rfl
  simp only [Tryd.ntmps30, List.size_toArray, List.length_cons, List.length_nil, Nat.reduceAdd, Nat.reduceSub, Array.replicate_succ, Array.replicate_zero, List.push_toArray, List.append_toArray, List.nil_append, List.cons_append]
  gi_wp2_with fail
  refine ⟨trivial, (callsIn_wide.2 (lines_any s _)).mono ?_⟩
  rintro e w1 ⟨rfl, hw1⟩
  gi_wp2_with fail
  subst hw1
  clear hmm
  change Code.wpIn _ _ _ _ _ { tmps := #[.string s, undef, .pointer (some ⟨w.heap.size, 0, none⟩), .pointer (some ⟨w.heap.size + 1, 0, none⟩), .pointer (some ⟨w.heap.size + 2, 0, none⟩), .pointer (some ⟨w.heap.size + 5, 0, none⟩), undef, undef, undef, undef, .string s, .int .i64 s.size, .bool false, .map (some (w.heap.size + 3)), .agg #[.slice none 0 0, .map (some (w.heap.size + 3))], .pointer (some ⟨w.heap.size + 4, 0, none⟩), .string s, .func (.func 122) #[] #[.pointer (some ⟨w.heap.size + 6, 0, none⟩)], undef, undef, undef, undef, undef, undef, undef, undef, undef, undef, undef, undef, undef, undef, undef, undef, undef], defers := [] } (rdW w s)
  have hS := rdW_start w s hm0.out
  have hsz := rdW_size w s
  have hbx := rdW_box w s
  have hmx := hS.mx
  have hpos : 0 < w.heap.size := hm0.out.pos
  generalize rdW w s = W1 at hS hsz hbx hmx ⊢
  replace hS := Lib.hid hS; replace hbx := Lib.hid hbx; replace hmx := Lib.hid hmx
  refine wpIn_rangeFunc_box rfl (by omega) (gf := 122) (lb := #[.pointer (some ⟨w.heap.size + 6, 0, none⟩)]) rfl trivial (enters_of Tryd.func122 (by kernel_rfl) rfl)
    (lines_seq 7 (by omega) (w.heap.size + 6) s W1 (by omega) hbx.out hmx.out (by omega)) (by omega) (Below.refl _ _) (fun _ => rfl)
    (RdI w) (fun c pre W => c = .ret ∧ RdX w pre W) ?hI ?hIx ?hIb ?hIxb hS.out
    (fun x => { tmps := #[.string s, undef, .pointer (some ⟨w.heap.size, 0, none⟩), .pointer (some ⟨w.heap.size + 1, 0, none⟩), .pointer (some ⟨w.heap.size + 2, 0, none⟩), .pointer (some ⟨w.heap.size + 5, 0, none⟩), .int .i64 x.1, .string x.2, undef, undef, .string s, .int .i64 s.size, .bool false, .map (some (w.heap.size + 3)), .agg #[.slice none 0 0, .map (some (w.heap.size + 3))], .pointer (some ⟨w.heap.size + 4, 0, none⟩), .string s, .func (.func 122) #[] #[.pointer (some ⟨w.heap.size + 6, 0, none⟩)], .int .i64 x.1, .string x.2, undef, undef, undef, undef, undef, undef, undef, undef, undef, undef, undef, undef, undef, undef, undef], defers := [] }) ?assign ?body ?done ?stop
  case hI =>
    intro pre A B row h hg hr2
    exact h.grown hg fun r e => .inr (by rw [← hsz]; exact hr2 r e)
  case hIx =>
    rintro c pre A B row ⟨rfl, h⟩ hg hr2
    exact ⟨rfl, h.grown hg fun r e => .inr (by rw [← hsz]; exact hr2 r e)⟩
  case hIb =>
    intro pre A B h hg
    exact h.grown hg fun r e => .inl (by cases e; rfl)
  case hIxb =>
    rintro c pre A B ⟨rfl, h⟩ hg
    exact ⟨rfl, h.grown hg fun r e => .inl (by cases e; rfl)⟩
  case assign =>
    intro l x W K hK
    gi_wp2
    exact hK
  case body =>
    rintro l pre ⟨i, ln⟩ W hI hpre
    have hmem : (i, ln) ∈ linesOf s := hpre.subset (by simp)
    have hln := lines_le hmem
    have hnode := node_any ln W hI.mx (by have : ln.size ≤ s.size := hln; omega)
    replace hI := Lib.hid hI; replace hpre := Lib.hid hpre; replace hmem := Lib.hid hmem; replace hln := Lib.hid hln; replace hnode := Lib.hid hnode
    gi_wp2_with fail
    refine ⟨trivial, ((callsIn_wide.2 hnode.out).inRound l).mono ?_⟩
    rintro e w2 ⟨x, r, rfl, hok, hlow, hpo, hcase⟩
    have hI2 := hI.out.below hlow
    have c0 := blk_cell hI2.c0 0
    have c1 := blk_cell hI2.c1 0
    have c2 := blk_cell hI2.c2 0
    have c5 := blk_cell hI2.fx 0
    have f0 := blk_free hI2.c0 0
    have f1 := blk_free hI2.c1 0
    have f2 := blk_free hI2.c2 0
    have l0 := blk_lt hI2.c0
    have l1 := blk_lt hI2.c1
    have l2 := blk_lt hI2.c2
    have l5 := blk_lt hI2.fx
    simp at c0 c1 c2 c5
    rcases hcase with ⟨hnone, rfl, rfl⟩ | ⟨hsome, rfl⟩
    · have hs3 := s3_of hI2.c0 hI2.c1 hI2.c2 (.pointer none) 50 i
      have hrd : readTo [] (pre ++ [(i, ln)]) = ((readTo [] pre).1, 50, i) := by rw [readTo_app _ _ _ hI.out.ok, readTo_bad hnone]
      have hsz2 := hI2.sz
      replace hI2 := Lib.hid hI2; replace hok := Lib.hid hok; replace hlow := Lib.hid hlow; replace hpo := Lib.hid hpo; replace hnone := Lib.hid hnone; replace hs3 := Lib.hid hs3; replace hrd := Lib.hid hrd
      gi_wp2
      refine ⟨?_, rfl, ?_⟩
      · refine ⟨?_, fun k o hk hh ho => blk_old _ (hs3.out.other k o (blk_below hlow.out hh (blk_lt hh)) (by omega) (by omega) (by omega))⟩
        have := hs3.out.size
        have := hlow.out.size
        rw [World.size_alloc]
        omega
      · refine ⟨(hs3.out.low _ hI2.out.low).alloc (hs3.out.low _ hI2.out.low).size _, by rw [hrd.out]; show (50 : Int) ≠ 0; decide, blk_old _ hs3.out.c0, by rw [hrd.out]; exact blk_old _ hs3.out.c1, by rw [hrd.out]; exact blk_old _ hs3.out.c2, ?_⟩
        have := hs3.out.size
        rw [World.size_alloc]
        omega
    · have hnd := nodeOf_ok hsome
      have hnp := nodeOf_parts hsome
      have hnm := isName_le hnd.name
      obtain ⟨W3, hW3⟩ : ∃ W3, W3 = w2.alloc (.cells x.cells 48 (0, 0)) := ⟨_, rfl⟩
      have hlow3 : Below w2.heap.size w2 W3 := by rw [hW3]; exact (Below.refl _ _).alloc (Nat.le_refl _) _
      have hI3 := hI2.below hlow3
      have hok3 := hok.low hlow3
      have hpa3 : PartsAt W3 x := fun b off e => by
        obtain ⟨_, c, hc⟩ := hpo b off e
        exact ⟨c, blk_below hlow3 hc (blk_lt hc)⟩
      obtain ⟨nv, xs, h1, h2, h3⟩ := hI3.fl.ex
      have hpo7 : ∀ b off, x.po = some ⟨b, off, none⟩ → w.heap.size + 7 ≤ b := fun b off e => Nat.le_trans hI.out.sz (hpo b off e).1
      have hpn : x.pn ≤ 4294967296 := by
        have e1 := hok3.parts.len
        have e2 : x.parts.length ≤ ln.size + 1 := hnp
        have : ln.size ≤ s.size := hln.out
        omega
      have hput := put_any W3 (w.heap.size + 4) (w.heap.size + 3) (w.heap.size + 7) w.heap.size nv xs x h1 hok3 hpa3 (by have : maxLen = 9223372036854775807 := rfl; have : x.name.size ≤ 16 := hnm; omega) hpn (by omega) (by omega) (by omega) hI3.sz
      obtain ⟨E, hE⟩ : ∃ E, E = putE (xs.map Nde.name) xs.length x.name x.parts := ⟨_, rfl⟩
      rw [← hE] at hput
      have hns : xs.map Nde.name = (readTo [] pre).1.map Ndv.name := by rw [← h2, List.map_map]; rfl
      have hxl : xs.length = (readTo [] pre).1.length := by rw [← h2, List.length_map]
      obtain ⟨nm, ⟨ca, cb, cc, cd⟩, po, pn, pc, ps⟩ := x
      rw [hW3] at hput
      replace hI2 := Lib.hid hI2; replace hok := Lib.hid hok; replace hlow := Lib.hid hlow; replace hpo := Lib.hid hpo; replace hsome := Lib.hid hsome; replace hnd := Lib.hid hnd; replace hnp := Lib.hid hnp; replace hnm := Lib.hid hnm; replace hlow3 := Lib.hid hlow3; replace hI3 := Lib.hid hI3; replace hok3 := Lib.hid hok3; replace hpa3 := Lib.hid hpa3; replace h1 := Lib.hid h1; replace h2 := Lib.hid h2; replace h3 := Lib.hid h3; replace hpo7 := Lib.hid hpo7; replace hpn := Lib.hid hpn; replace hput := Lib.hid hput; replace hE := Lib.hid hE; replace hns := Lib.hid hns; replace hxl := Lib.hid hxl
      have hW3' := Lib.hid hW3
      clear hW3
      gi_wp2_with fail
      refine ⟨trivial, ((callsIn_wide.2 hput.out).inRound l).mono ?_⟩
      rintro e w4 ⟨nv', rfl, hF4, hK⟩
      rw [← hW3'.out] at hK
      have hno := rd_not hI3.out hK
      obtain ⟨q0, q1, q2, hlow4, hsz4⟩ := hno
      clear c0 c1 c2 c5 f0 f1 f2 l0 l1 l2 l5
      by_cases hE0 : E = 0
      · subst hE0
        rw [if_pos rfl] at hF4
        have hI4 : RdI w (pre ++ [(i, ln)]) w4 := rd_put hI3.out h2.out h3.out hsome.out hpo7.out hE.out.symm hF4 hK hpos
        replace hF4 := Lib.hid hF4; replace hK := Lib.hid hK; replace q0 := Lib.hid q0; replace q1 := Lib.hid q1; replace q2 := Lib.hid q2; replace hlow4 := Lib.hid hlow4; replace hsz4 := Lib.hid hsz4; replace hI4 := Lib.hid hI4
        gi_wp2
        have hsW3 : W.heap.size ≤ W3.heap.size := Nat.le_trans hlow.out.size hlow3.out.size
        have key : ∀ k, k < W.heap.size → W3.heap[k]? = W.heap[k]? := fun k hk => (hlow3.out.block k (Nat.lt_of_lt_of_le hk hlow.out.size)).trans (hlow.out.block k hk)
        have hsW := hI.out.sz
        refine ⟨⟨Nat.le_trans hsW3 hsz4.out, fun k o hk hh ho => ?_⟩, ⟨?_, ?_⟩, hI4.out⟩
        · exact (hK.out.keeps (B := W1.heap.size) (by omega) (by omega) hsz4.out).same k o hk ((key k (blk_lt hh)).trans hh) ho
        · exact (hK.out.blk (by omega) (by omega) (by omega) (by omega)).trans (key _ (by omega))
        · exact (hK.out.low.block 0 hpos).trans (key _ (by omega))
      · have hrd : readTo [] (pre ++ [(i, ln)]) = ((readTo [] pre).1, E, i) := by
          rw [readTo_app _ _ _ hI.out.ok, readTo_not hsome.out]
          · rw [← hns.out, ← hxl.out]; rw [hE.out]; rfl
          · rw [← hns.out, ← hxl.out]; exact fun c => hE0 (hE.out.trans c)
        have hs3 := s3_of q0 q1 q2 (.pointer none) E i
        have c0 := blk_cell q0 0
        have c1 := blk_cell q1 0
        have c2 := blk_cell q2 0
        have f0 := blk_free q0 0
        have f1 := blk_free q1 0
        have f2 := blk_free q2 0
        simp at c0 c1 c2
        have dE : (E != 0) = true := by simpa using hE0
        replace hF4 := Lib.hid hF4; replace hK := Lib.hid hK; replace q0 := Lib.hid q0; replace q1 := Lib.hid q1; replace q2 := Lib.hid q2; replace hlow4 := Lib.hid hlow4; replace hsz4 := Lib.hid hsz4; replace hE0 := Lib.hid hE0; replace hrd := Lib.hid hrd; replace hs3 := Lib.hid hs3
        gi_wp2
        have hsW3 : W.heap.size ≤ W3.heap.size := Nat.le_trans hlow.out.size hlow3.out.size
        have key : ∀ k, k < W.heap.size → W3.heap[k]? = W.heap[k]? := fun k hk => (hlow3.out.block k (Nat.lt_of_lt_of_le hk hlow.out.size)).trans (hlow.out.block k hk)
        have hsW := hI.out.sz
        refine ⟨⟨by rw [hs3.out.size]; exact Nat.le_trans hsW3 hsz4.out, fun k o hk hh ho => ?_⟩, rfl, hs3.out.low _ hlow4.out, by rw [hrd.out]; exact hE0.out, hs3.out.c0, by rw [hrd.out]; exact hs3.out.c1, by rw [hrd.out]; exact hs3.out.c2, by rw [hs3.out.size]; have := hsz4.out; omega⟩
        exact hs3.out.other k o ((hK.out.keeps (B := W1.heap.size) (by omega) (by omega) hsz4.out).same k o hk ((key k (blk_lt hh)).trans hh) ho) (by omega) (by omega) (by omega)
  case done =>
    intro D W hD hI hK
    have c0 := blk_cell hI.c0 0
    have c1 := blk_cell hI.c1 0
    have c2 := blk_cell hI.c2 0
    have c5 := blk_cell hI.fx 0
    have f0 := blk_free hI.c0 0
    have f1 := blk_free hI.c1 0
    have f2 := blk_free hI.c2 0
    simp at c0 c1 c2 c5
    have hs3 := s3_of hI.c0 hI.c1 hI.c2 (.pointer (some ⟨w.heap.size + 4, 0, none⟩)) 0 0
    have hz := readTo_zero [] (linesOf s) hI.ok
    have hDs := blk_lt hK
    have hKD := hs3.other D _ hK (by omega) (by omega) (by omega)
    replace hI := Lib.hid hI; replace hK := Lib.hid hK; replace hs3 := Lib.hid hs3; replace hz := Lib.hid hz; replace hKD := Lib.hid hKD
    gi_wp2
    refine ⟨by simp, .inl ⟨_, _, rfl, run_takeDeferred hKD.out, ?_⟩⟩
    obtain ⟨W5, hW5⟩ : ∃ W5, W5 = (((W.setCell ⟨w.heap.size, 0, none⟩ (.pointer (some ⟨w.heap.size + 4, 0, none⟩))).setCell ⟨w.heap.size + 1, 0, none⟩ (.int .i64 0)).setCell ⟨w.heap.size + 2, 0, none⟩ (.int .i64 0)) := ⟨_, rfl⟩
    have hs5 := hs3.out
    have hK5 := hKD.out
    rw [← hW5] at hs5 hK5 ⊢
    have g0 := blk_cell ((World.putObj_heap_other (o := .deferred none) (show w.heap.size ≠ D by omega)).trans hs5.c0) 0
    have g1 := blk_cell ((World.putObj_heap_other (o := .deferred none) (show w.heap.size + 1 ≠ D by omega)).trans hs5.c1) 0
    have g2 := blk_cell ((World.putObj_heap_other (o := .deferred none) (show w.heap.size + 2 ≠ D by omega)).trans hs5.c2) 0
    simp at g0 g1 g2
    refine ⟨.tuple #[.pointer (some ⟨w.heap.size + 4, 0, none⟩), .int .i64 0, .int .i64 0], by simp [results, Tryd.results30, go_sem, g0, g1, g2], some ⟨w.heap.size + 4, 0, none⟩, by rw [hr.out, hI.out.ok, hz.out], ?_, .inr ⟨by rw [hr.out]; exact hI.out.ok, rfl, ?_⟩⟩
    · exact (hs5.low _ hI.out.low).grown (grownBy_putObj' _ D _) (hs5.low _ hI.out.low).size (fun k e => by cases e; omega)
    · rw [hr.out]
      refine hI.out.fl.other (by have := hs5.size; simp [World.putObj]; omega) fun k o hk hc => ?_
      have hne : k ≠ D := fun e => by
        subst e
        rw [hK.out] at hk
        cases hk
        rcases hc with e | e | ⟨_, e⟩
        · omega
        · omega
        · simp [Obj.isCells] at e
      exact (World.putObj_heap_other hne).trans (hs5.other k o hk (by omega) (by omega) (by omega))
  case stop =>
    rintro D c pre ⟨i, ln⟩ W hD hpre ⟨rfl, hX⟩ hK
    have hDs := blk_lt hK
    have hst : readTo [] (linesOf s) = readTo [] (pre ++ [(i, ln)]) := by
      obtain ⟨m, hm⟩ := hpre
      rw [← hm, readTo_stop _ _ _ hX.bad]
    replace hX := Lib.hid hX; replace hK := Lib.hid hK; replace hst := Lib.hid hst; replace hpre := Lib.hid hpre
    gi_wp2
    refine ⟨by simp, .inl ⟨_, _, rfl, run_takeDeferred hK.out, ?_⟩⟩
    have g0 := blk_cell ((World.putObj_heap_other (o := .deferred none) (show w.heap.size ≠ D by omega)).trans hX.out.c0) 0
    have g1 := blk_cell ((World.putObj_heap_other (o := .deferred none) (show w.heap.size + 1 ≠ D by omega)).trans hX.out.c1) 0
    have g2 := blk_cell ((World.putObj_heap_other (o := .deferred none) (show w.heap.size + 2 ≠ D by omega)).trans hX.out.c2) 0
    simp at g0 g1 g2
    refine ⟨.tuple #[.pointer none, .int .i64 (readTo [] (pre ++ [(i, ln)])).2.1, .int .i64 (readTo [] (pre ++ [(i, ln)])).2.2], by simp [results, Tryd.results30, go_sem, g0, g1, g2], none, by rw [hr.out, hst.out], ?_, .inl ⟨by rw [hr.out, hst.out]; exact hX.out.bad, rfl⟩⟩
    exact hX.out.low.grown (grownBy_putObj' _ D _) hX.out.low.size (fun k e => by cases e; omega)
theorem read_any (s : ByteArray) (w : World) (hm : Mx w) : Calls Tryd.prog 30 #[.string s] w (ReadPost s w) := by
  by_cases hs : 4096 < s.size
  · exact read_long s w hs
  · exact read_short s w hm hs
end Go.Proofs.YteoihdkaoipocaaDoor
