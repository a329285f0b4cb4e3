/- The document's profile: Take and Give; the document's pool in memory. Conditions: the rows lie in memory. -/
import Derived.Test.YtpjajiambbobhaaRefa
/- corveeref06.Profile.with: a profile with one change more. -/
namespace Go.Proofs.Ytpjajiambbobhaa
open Go.RowKit

theorem new_cells (w : World) (cs : Array Value) (T : TypeId) : ∀ j u, cs.toList[j]? = some u → (w.alloc (.cells cs T (0, 0))).cell? ((⟨w.heap.size, 0, none⟩ : Addr).add j) = some u := by
  intro j u hu
  rw [Addr.add_lit, Nat.zero_add, blk_cell (blk_new w _) j]
  simpa using hu

theorem ccells_at {w : World} {b : Nat} {c : Ch} (h : w.heap[b]? = some (.cells c.cells 151 (0, 0))) : w.cell? ⟨b, 0, none⟩ = some (.int .i64 c.fr) ∧ w.cell? ⟨b, 1, none⟩ = some (.int .i64 c.tt) ∧ w.cell? ⟨b, 2, none⟩ = some (.int .i64 c.v.a) ∧ w.cell? ⟨b, 3, none⟩ = some (.int .i64 c.v.b) ∧
    w.cell? ⟨b, 4, none⟩ = some (.int .i64 c.v.c) ∧ w.cell? ⟨b, 5, none⟩ = some (.int .i64 c.v.d) ∧ w.cell? ⟨b, 6, none⟩ = some (.bool c.back) := ⟨blk_cell h 0, blk_cell h 1, blk_cell h 2, blk_cell h 3, blk_cell h 4, blk_cell h 5, blk_cell h 6⟩
theorem rcells_at {w : World} {b : Nat} (h : w.heap[b]? = some (.cells #[.int .i64 0, .int .i64 0, .int .i64 0, .int .i64 0, .slice none 0 0] 119 (0, 0))) : w.cell? ⟨b, 0, none⟩ = some (.int .i64 0) ∧ w.cell? ⟨b, 1, none⟩ = some (.int .i64 0) ∧ w.cell? ⟨b, 2, none⟩ = some (.int .i64 0) ∧ w.cell? ⟨b, 3, none⟩ = some (.int .i64 0) ∧ w.cell? ⟨b, 4, none⟩ = some (.slice none 0 0) :=
  ⟨blk_cell h 0, blk_cell h 1, blk_cell h 2, blk_cell h 3, blk_cell h 4⟩
theorem heap_set6 {w : World} {A R g : Nat} (h1 : g ≠ A) (h2 : g ≠ R) (u u0 u1 u2 u3 u4 : Value) :
    ((((((w.setCell ⟨A, 4, none⟩ u).setCell ⟨R, 0, none⟩ u0).setCell ⟨R, 1, none⟩ u1).setCell ⟨R, 2, none⟩ u2).setCell ⟨R, 3, none⟩ u3).setCell ⟨R, 4, none⟩ u4).heap[g]? = w.heap[g]? := by
  rw [Below.heap_setCell _ _ _ _ h2, Below.heap_setCell _ _ _ _ h2, Below.heap_setCell _ _ _ _ h2, Below.heap_setCell _ _ _ _ h2, Below.heap_setCell _ _ _ _ h2, Below.heap_setCell _ _ _ _ h1]
def WithPost (whole : V4) (cs : List Ch) (w : World) (e : Ending) (w' : World) : Prop := ∃ sv, e = .returned (pval whole sv) ∧ CRow w' sv cs ∧ Below w.heap.size w w'

set_option maxRecDepth 100000 in
set_option maxHeartbeats 1600000 in
theorem rwith_any (whole : V4) (sv : Value) (cs : List Ch) (c : Ch) (w : World) (hc : CRow w sv cs) (hn : cs.length ≤ 100000) :
    Calls Try.prog 115 #[pval whole sv, c.val] w (WithPost whole (cs ++ [c]) w) := by
  obtain ⟨i151, hi, hz, hz1, hz2⟩ := info_parts info151
  obtain ⟨W, hW⟩ : ∃ W, W = ((w.alloc (.cells (pcells whole sv) 119 (0, 0))).alloc (.cells c.cells 151 (0, 0))).alloc (.cells #[.int .i64 0, .int .i64 0, .int .i64 0, .int .i64 0, .slice none 0 0] 119 (0, 0)) := ⟨_, rfl⟩
  have hB0 : Below w.heap.size w W := by rw [hW]; exact below3w w _ _ _
  have hp0 : W.heap[w.heap.size]? = some (.cells (pcells whole sv) 119 (0, 0)) := by rw [hW]; exact blk_old _ (blk_old _ (blk_new _ _))
  have hc0 : W.heap[w.heap.size + 1]? = some (.cells c.cells 151 (0, 0)) := by rw [hW]; exact blk_old _ (blk_at _ _ (by simp))
  have hr0 : W.heap[w.heap.size + 1 + 1]? = some (.cells #[.int .i64 0, .int .i64 0, .int .i64 0, .int .i64 0, .slice none 0 0] 119 (0, 0)) := by rw [hW]; exact blk_at _ _ (by simp)
  have sW : W.heap.size = w.heap.size + 1 + 1 + 1 := by rw [hW]; simp
  obtain ⟨n, hnn⟩ : ∃ n, n = cs.length := ⟨_, rfl⟩
  have hX : W.ownsRow 0 151 7 sv n (flatC cs) := by rw [hnn]; exact hc.below hB0 (Nat.le_refl _)
  have hnil0 : W.ownsRow (w.heap.size + 1 + 1 + 1) 151 7 (.slice none 0 0) 0 [] := World.ownsRow_nil _ _ _ _
  have hone : ∀ u ∈ flatC cs, u.oneCell' = true := flatC_oneCell cs
  have hone1 : ∀ u ∈ c.cells.toList, u.oneCell' = true := by simp [Value.oneCell']
  have h63 : 0 + n ≤ maxLen := by
    have : maxLen = 9223372036854775807 := by kernel_rfl
    omega
  have h63b : 0 + n + 1 ≤ maxLen := by
    have : maxLen = 9223372036854775807 := by kernel_rfl
    omega
  have hby : (0 + n) * 56 ≤ 140737488355328 := by omega
  have hbyb : (0 + n + 1) * 56 ≤ 140737488355328 := by omega
  have hbas : w.heap.size + 1 + 1 + 1 ≤ W.heap.size := by omega
  have s7 : 0 < 7 := by omega
  have hnil1 := nil_own (w.heap.size + 1 + 1 + 1)
  have hW2 := hW
  rw [hW] at hX hnil0 hbas
  replace hB0 := Lib.hid hB0; replace hp0 := Lib.hid hp0; replace hc0 := Lib.hid hc0; replace hr0 := Lib.hid hr0; replace sW := Lib.hid sW; replace hX := Lib.hid hX; replace hnil0 := Lib.hid hnil0; replace hone := Lib.hid hone; replace hone1 := Lib.hid hone1
  replace h63 := Lib.hid h63; replace h63b := Lib.hid h63b; replace hby := Lib.hid hby; replace hbyb := Lib.hid hbyb; replace hbas := Lib.hid hbas; replace hW := Lib.hid hW; replace hW2 := Lib.hid hW2; replace hc := Lib.hid hc; replace hnn := Lib.hid hnn; replace hn := Lib.hid hn; replace hnil1 := Lib.hid hnil1
  go_enter Try.func115, Try.ntmps115
  have hltb : w.heap.size + 1 < w.heap.size + 1 + 1 + 1 := by omega
  have hltp : w.heap.size < w.heap.size + 1 + 1 + 1 := by omega
  have hltr : w.heap.size + 1 + 1 < w.heap.size + 1 + 1 + 1 := by omega
  go_wp2_with (first
    | (at_builtin; refine wpList_append_row rfl _ _ 117 rfl (w.heap.size + 1 + 1 + 1) 151 i151 _ 7 56 Try.underlying117 hi hz hz1 hz2 rfl s7 (.slice none 0 0) 0 [] rfl hnil0.out sv n _ rfl hX.out hone.out h63.out hby.out hbas.out ?_; intro v1 w2 hown2 hgrow2; have hG2 := (Below.refl _ _).grown hgrow2 hbas.out hnil1.out; rw [← hW2.out] at hG2; have s2 : w.heap.size + 1 + 1 + 1 ≤ w2.heap.size := Nat.le_trans (Nat.le_of_eq sW.out.symm) hG2.size; obtain ⟨q0, q1, q2, q3, q4, q5, q6⟩ := ccells_at (blk_below hG2 hc0.out hltb); have hown2a := World.ownsRow.alloc hown2 (.cells c.cells 151 (0, 0)); have hnews := new_cells w2 c.cells 151; have hbas2 := size_alloc s2 (.cells c.cells 151 (0, 0)); replace hG2 := Lib.hid hG2; replace hown2 := Lib.hid hown2; replace hgrow2 := Lib.hid hgrow2; replace hown2a := Lib.hid hown2a; replace hnews := Lib.hid hnews; replace hbas2 := Lib.hid hbas2)
    | (at_builtin; refine wpList_append_own _ rfl _ _ 117 rfl (w.heap.size + 1 + 1 + 1) 151 i151 _ 7 56 Try.underlying117 hi hz hz1 hz2 rfl s7 v1 (0 + n) _ rfl hown2a.out ⟨w2.heap.size, 0, none⟩ 1 1 c.cells.toList rfl rfl hnews.out hone1.out h63b.out hbyb.out hbas2.out ?_; intro v2 w3 hown3 hgrow3 _; obtain ⟨g2, cap2, rfl⟩ := Joins.ownsRow_form hown3 (Nat.succ_pos _); have hG3 := (hG2.out.alloc s2 _).grown hgrow3 hbas2.out (fun k hk => (World.ownsRow.lt hown2.out k hk).1); obtain ⟨p0, p1, p2, p3, p4⟩ := pcells_at (blk_below hG3 hp0.out hltp); have fp := blk_free (blk_below hG3 hp0.out hltp) 4; have hr3 := blk_below hG3 hr0.out hltr; have f0 := blk_free hr3 0; have f1 := blk_free hr3 1; have f2 := blk_free hr3 2; have f3 := blk_free hr3 3; have f4 := blk_free hr3 4; obtain ⟨r0, r1, r2, r3, r4⟩ := rcells_at hr3; have lp3 := blk_lt (blk_below hG3 hp0.out hltp); have lr3 := blk_lt hr3; replace hr3 := Lib.hid hr3; replace hG3 := Lib.hid hG3; replace hown3 := Lib.hid hown3; replace hgrow3 := Lib.hid hgrow3))
  refine bodyPost_ret (v := pval whole (.slice (some ⟨g2, 0, none⟩) (0 + n + 1) cap2)) (by simp [results, Try.results115, go_sem, r0, r1, r2, r3, r4]) rfl ⟨_, rfl, ?_, ?_⟩
  · have h := owns_mono (base' := 0) hown3.out (Nat.zero_le _)
    have e : (cs ++ [c]).length = 0 + n + 1 := by rw [hnn.out]; simp
    unfold CRow
    rw [e, flatC_append, flatC_one]
    refine owns_same (by simpa using h) fun g hg => ?_
    have := (World.ownsRow.lt hown3.out g hg).1
    exact heap_set6 (by omega) (by omega) _ _ _ _ _ _
  · have h3 := hB0.out.trans (hG3.out.mono (by omega))
    exact ((((((h3.setCell (Nat.le_refl _) _).setCell (Nat.le_succ_of_le (Nat.le_succ _)) _).setCell (Nat.le_succ_of_le (Nat.le_succ _)) _).setCell (Nat.le_succ_of_le (Nat.le_succ _)) _).setCell (Nat.le_succ_of_le (Nat.le_succ _)) _).setCell (Nat.le_succ_of_le (Nat.le_succ _)) _)
end Go.Proofs.Ytpjajiambbobhaa

/- corveeref06.Profile.Take: an amount is taken, where it fits. -/
namespace Go.Proofs.Ytpjajiambbobhaa
open Go.RowKit

structure TkW (w : World) (whole : V4) (sv : Value) (v : V4) (wr : World) : Prop where
  p : wr.heap[w.heap.size]? = some (.cells (pcells whole sv) 119 (0, 0))
  v : wr.heap[w.heap.size + 1]? = some (.cells v.cells 23 (0, 0))
  r : wr.heap[w.heap.size + 1 + 1]? = some (.cells #[.int .i64 0, .int .i64 0, .int .i64 0, .int .i64 0, .slice none 0 0] 119 (0, 0))
  low : Below w.heap.size w wr
theorem TkW.below {w wr w' : World} {whole v : V4} {sv : Value} (h : TkW w whole sv v wr) (hb : Below wr.heap.size wr w') : TkW w whole sv v w' :=
  ⟨blk_below hb h.p (blk_lt h.p), blk_below hb h.v (blk_lt h.v), blk_below hb h.r (blk_lt h.r), h.low.trans (hb.mono h.low.size)⟩

def TkS (b : Nat) (whole : V4) (sv : Value) (v : V4) (w' : World) : Prop :=
  w'.cell? ⟨b + 1, 0, none⟩ = some (.int .i64 v.a) ∧ w'.cell? ⟨b + 1, 1, none⟩ = some (.int .i64 v.b) ∧ w'.cell? ⟨b + 1, 2, none⟩ = some (.int .i64 v.c) ∧ w'.cell? ⟨b + 1, 3, none⟩ = some (.int .i64 v.d) ∧
  w'.cell? ⟨b, 0, none⟩ = some (.int .i64 whole.a) ∧ w'.cell? ⟨b, 1, none⟩ = some (.int .i64 whole.b) ∧ w'.cell? ⟨b, 2, none⟩ = some (.int .i64 whole.c) ∧ w'.cell? ⟨b, 3, none⟩ = some (.int .i64 whole.d) ∧ w'.cell? ⟨b, 4, none⟩ = some sv
theorem TkW.held {w wr : World} {whole v : V4} {sv : Value} (h : TkW w whole sv v wr) : TkS w.heap.size whole sv v wr :=
  ⟨blk_cell h.v 0, blk_cell h.v 1, blk_cell h.v 2, blk_cell h.v 3, blk_cell h.p 0, blk_cell h.p 1, blk_cell h.p 2, blk_cell h.p 3, blk_cell h.p 4⟩

/-- a result of a profile stored: nothing that was there before the call turned -/
theorem low5 {w0 w : World} {B b : Nat} (h : Below B w0 w) (hb : B ≤ b) (v0 v1 v2 v3 v4 : Value) :
    Below B w0 (((((w.setCell ⟨b, 0, none⟩ v0).setCell ⟨b, 1, none⟩ v1).setCell ⟨b, 2, none⟩ v2).setCell ⟨b, 3, none⟩ v3).setCell ⟨b, 4, none⟩ v4) :=
  ((((h.setCell hb _).setCell hb _).setCell hb _).setCell hb _).setCell hb _
theorem heap_set5 {w : World} {R g : Nat} (h2 : g ≠ R) (u0 u1 u2 u3 u4 : Value) :
    (((((w.setCell ⟨R, 0, none⟩ u0).setCell ⟨R, 1, none⟩ u1).setCell ⟨R, 2, none⟩ u2).setCell ⟨R, 3, none⟩ u3).setCell ⟨R, 4, none⟩ u4).heap[g]? = w.heap[g]? := by
  rw [Below.heap_setCell _ _ _ _ h2, Below.heap_setCell _ _ _ _ h2, Below.heap_setCell _ _ _ _ h2, Below.heap_setCell _ _ _ _ h2, Below.heap_setCell _ _ _ _ h2]
theorem CRow.set5 {w : World} {sv : Value} {cs : List Ch} {R : Nat} {o : Array Value} (h : CRow w sv cs) (hr : w.heap[R]? = some (.cells o 119 (0, 0))) (u0 u1 u2 u3 u4 : Value) :
    CRow (((((w.setCell ⟨R, 0, none⟩ u0).setCell ⟨R, 1, none⟩ u1).setCell ⟨R, 2, none⟩ u2).setCell ⟨R, 3, none⟩ u3).setCell ⟨R, 4, none⟩ u4) sv cs := by
  obtain ⟨h1, h2⟩ := h
  refine ⟨h1, ?_⟩
  rcases h2 with h | ⟨g, cap, cur, e, hb, hg, hx⟩
  · exact .inl h
  · have hne : g ≠ R := fun c => by rw [c, hr] at hg; simp at hg
    exact .inr ⟨g, cap, cur, e, hb, (heap_set5 hne _ _ _ _ _).trans hg, hx⟩

def RTaken (cs : List Ch) (l : List St) (fr tt : Int) (v : V4) (r : Int) (cs' : List Ch) : Prop :=
  (spanL fr tt v = false ∧ r = 1 ∧ cs' = cs) ∨ (spanL fr tt v = true ∧ ¬ (∀ u, fr ≤ u → u < tt → v.leq (val l u)) ∧ r = 60 ∧ cs' = cs) ∨
    (spanL fr tt v = true ∧ (∀ u, fr ≤ u → u < tt → v.leq (val l u)) ∧ r = 0 ∧ cs' = cs ++ [⟨fr, tt, v, false⟩])
def RPost (whole : V4) (R : Int → List Ch → Prop) (w : World) (e : Ending) (w' : World) : Prop :=
  ∃ r sv cs, e = .returned (.tuple #[pval whole sv, .int .i64 r]) ∧ R r cs ∧ CRow w' sv cs ∧ Below w.heap.size w w'

set_option maxRecDepth 100000 in
set_option maxHeartbeats 1600000 in
theorem rtake_any (whole : V4) (sv : Value) (cs : List Ch) (l : List St) (fr tt : Int) (v : V4) (w : World) (hc : CRow w sv cs) (hn : cs.length ≤ 99999) (hR : RelC whole cs l) :
    Calls Try.prog 105 #[pval whole sv, .int .i64 fr, .int .i64 tt, v.val] w (RPost whole (RTaken cs l fr tt v) w) := by
  obtain ⟨W, hW⟩ : ∃ W, W = ((w.alloc (.cells (pcells whole sv) 119 (0, 0))).alloc (.cells v.cells 23 (0, 0))).alloc (.cells #[.int .i64 0, .int .i64 0, .int .i64 0, .int .i64 0, .slice none 0 0] 119 (0, 0)) := ⟨_, rfl⟩
  have hA0 : TkW w whole sv v W := by
    rw [hW]
    exact ⟨blk_old _ (blk_old _ (blk_new _ _)), blk_old _ (blk_at _ _ (by simp)), blk_at _ _ (by simp), below3w w _ _ _⟩
  obtain ⟨ao, cap, rfl, _⟩ := hc.form
  have hsp := span6_any fr tt v W
  rw [hW] at hsp
  replace hA0 := Lib.hid hA0; replace hW := Lib.hid hW; replace hsp := Lib.hid hsp; replace hc := Lib.hid hc; replace hn := Lib.hid hn; replace hR := Lib.hid hR
  go_enter Try.func105, Try.ntmps105
  go_wp2_with fail
  refine hsp.out.mono ?_
  rintro e w2 ⟨rfl, hb2⟩
  rw [← hW.out] at hb2
  have hA2 := hA0.out.below hb2
  have hspan : (decide (0 ≤ fr) && decide (fr < tt) && decide (tt ≤ 1099511627776) && v.right) = spanL fr tt v := rfl
  rw [hspan]
  clear hspan
  have hc2 := hc.out.below hA2.low (Nat.le_refl _)
  have lr := blk_lt hA2.r; have lp := blk_lt hA2.p; have lv := blk_lt hA2.v
  have s2 := hA2.low.size
  obtain ⟨p0, p1, p2, p3, p4⟩ := pcells_at hA2.p
  obtain ⟨r0, r1, r2, r3, r4⟩ := rcells_at hA2.r
  have f0 := blk_free hA2.r 0; have f1 := blk_free hA2.r 1; have f2 := blk_free hA2.r 2; have f3 := blk_free hA2.r 3; have f4 := blk_free hA2.r 4
  have q0 := blk_cell hA2.v 0; have q1 := blk_cell hA2.v 1; have q2 := blk_cell hA2.v 2; have q3 := blk_cell hA2.v 3
  simp at q0 q1 q2 q3
  replace hb2 := Lib.hid hb2; replace hA2 := Lib.hid hA2; replace hc2 := Lib.hid hc2
  cases hs : spanL fr tt v
  · replace hs := Lib.hid hs
    go_wp2
    refine bodyPost_ret (v := .tuple #[pval whole (.slice ao cs.length cap), .int .i64 1]) (by simp [results, Try.results105, go_sem, r0, r1, r2, r3, r4]) rfl ⟨1, _, cs, rfl, .inl ⟨hs.out, rfl, rfl⟩, hc2.out.set5 hA2.out.r _ _ _ _ _, low5 hA2.out.low (by omega) _ _ _ _ _⟩
  obtain ⟨b1, b2, b3, b4⟩ := spanL_true hs
  have hlf := leq_free hR.out.inv b1 b2 b3 v
  have hfr := rfree_any whole (.slice ao cs.length cap) cs l fr tt w2.drew (hc2.out.below (Below.refl _ _).drew (Nat.le_refl _)) (by have := hn.out; omega) hR.out
  obtain ⟨F, hF⟩ : ∃ F, F = freeL whole l fr tt := ⟨_, rfl⟩
  rw [← hF] at hlf hfr
  have hAd : TkW w whole (.slice ao cs.length cap) v w2.drew := hA2.out.below (Below.refl _ _).drew
  replace hs := Lib.hid hs; replace hlf := Lib.hid hlf; replace hfr := Lib.hid hfr; replace hF := Lib.hid hF; replace hAd := Lib.hid hAd
  clear b1 b2 b3 b4
  go_wp2_with fail
  go_region_held3 (fun w' => w'.cell? ⟨w.heap.size + 1, 0, none⟩ = some (.int .i64 v.a) ∧ w'.cell? ⟨w.heap.size + 1, 1, none⟩ = some (.int .i64 v.b) ∧ w'.cell? ⟨w.heap.size + 1, 2, none⟩ = some (.int .i64 v.c) ∧ w'.cell? ⟨w.heap.size + 1, 3, none⟩ = some (.int .i64 v.d) ∧
      w'.cell? ⟨w.heap.size, 0, none⟩ = some (.int .i64 whole.a) ∧ w'.cell? ⟨w.heap.size, 1, none⟩ = some (.int .i64 whole.b) ∧ w'.cell? ⟨w.heap.size, 2, none⟩ = some (.int .i64 whole.c) ∧ w'.cell? ⟨w.heap.size, 3, none⟩ = some (.int .i64 whole.d) ∧ w'.cell? ⟨w.heap.size, 4, none⟩ = some (.slice ao cs.length cap))
    (first
      | exact hAd.out.held
      | exact hA6.out.held
      | exact hA5.out.held)
    (first
      | (go_at_call 80
         refine hfr.out.mono ?_
         rintro e w5 ⟨rfl, hb5⟩
         have hA5 := hAd.out.below hb5
         replace hb5 := Lib.hid hb5; replace hA5 := Lib.hid hA5)
      | (go_at_call 28
         refine (fits3_any v F w5).mono ?_
         rintro e w6 ⟨rfl, hb6⟩
         have hA6 := hA5.out.below hb6
         replace hb6 := Lib.hid hb6; replace hA6 := Lib.hid hA6))
  have hc6 := hc.out.below hA6.out.low (Nat.le_refl _)
  clear lr lp lv p0 p1 p2 p3 p4 r0 r1 r2 r3 r4 f0 f1 f2 f3 f4 q0 q1 q2 q3 s2
  have lr := blk_lt hA6.out.r; have lp := blk_lt hA6.out.p; have lv := blk_lt hA6.out.v
  obtain ⟨p0, p1, p2, p3, p4⟩ := pcells_at hA6.out.p
  obtain ⟨r0, r1, r2, r3, r4⟩ := rcells_at hA6.out.r
  have f0 := blk_free hA6.out.r 0; have f1 := blk_free hA6.out.r 1; have f2 := blk_free hA6.out.r 2; have f3 := blk_free hA6.out.r 3; have f4 := blk_free hA6.out.r 4
  have q0 := blk_cell hA6.out.v 0; have q1 := blk_cell hA6.out.v 1; have q2 := blk_cell hA6.out.v 2; have q3 := blk_cell hA6.out.v 3
  simp at q0 q1 q2 q3
  replace hc6 := Lib.hid hc6
  cases hft : v.fits F
  · have hno : ¬ ∀ u, fr ≤ u → u < tt → v.leq (val l u) := fun h => fits_false.1 hft (hlf.out.2 h)
    replace hft := Lib.hid hft; replace hno := Lib.hid hno
    go_wp2
    refine bodyPost_ret (v := .tuple #[pval whole (.slice ao cs.length cap), .int .i64 60]) (by simp [results, Try.results105, go_sem, r0, r1, r2, r3, r4]) rfl ⟨60, _, cs, rfl, .inr (.inl ⟨hs.out, hno.out, rfl, rfl⟩), hc6.out.set5 hA6.out.r _ _ _ _ _, low5 hA6.out.low (by omega) _ _ _ _ _⟩
  have hall : ∀ u, fr ≤ u → u < tt → v.leq (val l u) := hlf.out.1 (fits_iff.1 hft)
  have hwi := rwith_any whole (.slice ao cs.length cap) cs ⟨fr, tt, v, false⟩ w6 hc6.out (by have := hn.out; omega)
  replace hft := Lib.hid hft; replace hall := Lib.hid hall; replace hwi := Lib.hid hwi
  go_wp2_with fail
  refine hwi.out.mono ?_
  rintro e w7 ⟨sv7, rfl, hc7, hb7⟩
  have hA7 := hA6.out.below hb7
  obtain ⟨ao7, cap7, rfl, _⟩ := hc7.form
  clear lr lp lv p0 p1 p2 p3 p4 r0 r1 r2 r3 r4 f0 f1 f2 f3 f4 q0 q1 q2 q3
  have lr := blk_lt hA7.r
  obtain ⟨r0, r1, r2, r3, r4⟩ := rcells_at hA7.r
  have f0 := blk_free hA7.r 0; have f1 := blk_free hA7.r 1; have f2 := blk_free hA7.r 2; have f3 := blk_free hA7.r 3; have f4 := blk_free hA7.r 4
  replace hc7 := Lib.hid hc7; replace hA7 := Lib.hid hA7; replace hb7 := Lib.hid hb7
  obtain ⟨m, hm⟩ : ∃ m, m = (cs ++ [(⟨fr, tt, v, false⟩ : Ch)]).length := ⟨_, rfl⟩
  rw [← hm]
  rw [← hm] at hc7
  replace hm := Lib.hid hm
  go_wp2
  refine bodyPost_ret (v := .tuple #[pval whole (.slice ao7 m cap7), .int .i64 0]) (by simp [results, Try.results105, go_sem, r0, r1, r2, r3, r4]) rfl ⟨0, _, _, rfl, .inr (.inr ⟨hs.out, hall.out, rfl, rfl⟩), hc7.out.set5 hA7.out.r _ _ _ _ _, low5 hA7.out.low (by omega) _ _ _ _ _⟩
end Go.Proofs.Ytpjajiambbobhaa

/- corveeref06.Profile.Give: an amount is given back, where that may be. -/
namespace Go.Proofs.Ytpjajiambbobhaa
open Go.RowKit

def RGiven (whole : V4) (cs : List Ch) (l : List St) (fr tt : Int) (v : V4) (r : Int) (cs' : List Ch) : Prop :=
  (spanL fr tt v = false ∧ r = 1 ∧ cs' = cs) ∨ (spanL fr tt v = true ∧ ¬ (∀ u, fr ≤ u → u < tt → (add4 (val l u) v).leq whole) ∧ r = 61 ∧ cs' = cs) ∨
    (spanL fr tt v = true ∧ (∀ u, fr ≤ u → u < tt → (add4 (val l u) v).leq whole) ∧ r = 0 ∧ cs' = cs ++ [⟨fr, tt, v, true⟩])
def RgS (Q A g k : Nat) (whole : V4) (sv : Value) (x : Int) (w' : World) : Prop :=
  w'.cell? ⟨Q, 0, none⟩ = some (.int .i64 whole.a) ∧ w'.cell? ⟨Q, 1, none⟩ = some (.int .i64 whole.b) ∧ w'.cell? ⟨Q, 2, none⟩ = some (.int .i64 whole.c) ∧ w'.cell? ⟨Q, 3, none⟩ = some (.int .i64 whole.d) ∧ w'.cell? ⟨Q, 4, none⟩ = some sv ∧
  w'.cell? ⟨A, 0, none⟩ = some (.int .i64 whole.a) ∧ w'.cell? ⟨A, 1, none⟩ = some (.int .i64 whole.b) ∧ w'.cell? ⟨A, 2, none⟩ = some (.int .i64 whole.c) ∧ w'.cell? ⟨A, 3, none⟩ = some (.int .i64 whole.d) ∧ w'.cell? ⟨g, k, none⟩ = some (.int .i64 x)
theorem fair_app {cs : List Ch} {c : Ch} (h : Fair cs) (hc : c.v.right = true ∧ 0 ≤ c.fr ∧ c.fr < c.tt ∧ c.tt ≤ 1099511627776) : Fair (cs ++ [c]) := by
  intro i hi
  by_cases e : i < cs.length
  · have : ch (cs ++ [c]) i = ch cs i := by simp [ch, List.getD, List.getElem?_append_left e]
    rw [this]; exact h i e
  · have e2 : i = cs.length := by simp at hi; omega
    have : ch (cs ++ [c]) i = c := by subst e2; simp [ch]
    rw [this]; exact hc
theorem RelC.given {whole : V4} {cs : List Ch} {l : List St} (h : RelC whole cs l) {fr tt : Int} (v : V4) {x : Int} (h0 : 0 ≤ fr) (h1 : tt ≤ 1099511627776) (hx : fr ≤ x) (hx2 : x < tt) : atF whole (cs ++ [⟨fr, tt, v, true⟩]) x = add4 (val l x) v := by
  unfold atF
  rw [if_pos (by omega), atR_app, h.same x (by omega) (by omega)]
  unfold stepC
  rw [if_neg (by simp only; omega), if_pos rfl]

set_option maxRecDepth 100000 in
set_option maxHeartbeats 3200000 in
theorem rgive_any (whole : V4) (sv : Value) (cs : List Ch) (l : List St) (fr tt : Int) (v : V4) (w : World) (hc : CRow w sv cs) (hn : cs.length ≤ 99999) (hR : RelC whole cs l) :
    Calls Try.prog 106 #[pval whole sv, .int .i64 fr, .int .i64 tt, v.val] w (RPost whole (RGiven whole cs l fr tt v) w) := by
  obtain ⟨W, hW⟩ : ∃ W, W = ((w.alloc (.cells (pcells whole sv) 119 (0, 0))).alloc (.cells v.cells 23 (0, 0))).alloc (.cells #[.int .i64 0, .int .i64 0, .int .i64 0, .int .i64 0, .slice none 0 0] 119 (0, 0)) := ⟨_, rfl⟩
  have hA0 : TkW w whole sv v W := by
    rw [hW]
    exact ⟨blk_old _ (blk_old _ (blk_new _ _)), blk_old _ (blk_at _ _ (by simp)), blk_at _ _ (by simp), below3w w _ _ _⟩
  obtain ⟨ao, cap, rfl, _⟩ := hc.form
  have hsp := span6_any fr tt v W
  rw [hW] at hsp
  replace hA0 := Lib.hid hA0; replace hW := Lib.hid hW; replace hsp := Lib.hid hsp; replace hc := Lib.hid hc; replace hn := Lib.hid hn; replace hR := Lib.hid hR
  go_enter Try.func106, Try.ntmps106
  go_wp2_with fail
  refine hsp.out.mono ?_
  rintro e w2 ⟨rfl, hb2⟩
  rw [← hW.out] at hb2
  have hA2 := hA0.out.below hb2
  have hspan : (decide (0 ≤ fr) && decide (fr < tt) && decide (tt ≤ 1099511627776) && v.right) = spanL fr tt v := rfl
  rw [hspan]
  clear hspan
  have hc2 := hc.out.below hA2.low (Nat.le_refl _)
  have lr := blk_lt hA2.r; have lp := blk_lt hA2.p; have lv := blk_lt hA2.v
  have s2 := hA2.low.size
  obtain ⟨p0, p1, p2, p3, p4⟩ := pcells_at hA2.p
  obtain ⟨r0, r1, r2, r3, r4⟩ := rcells_at hA2.r
  have f0 := blk_free hA2.r 0; have f1 := blk_free hA2.r 1; have f2 := blk_free hA2.r 2; have f3 := blk_free hA2.r 3; have f4 := blk_free hA2.r 4
  have q0 := blk_cell hA2.v 0; have q1 := blk_cell hA2.v 1; have q2 := blk_cell hA2.v 2; have q3 := blk_cell hA2.v 3
  simp at q0 q1 q2 q3
  replace hb2 := Lib.hid hb2; replace hA2 := Lib.hid hA2; replace hc2 := Lib.hid hc2
  cases hs : spanL fr tt v
  · replace hs := Lib.hid hs
    go_wp2
    refine bodyPost_ret (v := .tuple #[pval whole (.slice ao cs.length cap), .int .i64 1]) (by simp [results, Try.results106, go_sem, r0, r1, r2, r3, r4]) rfl ⟨1, _, cs, rfl, .inl ⟨hs.out, rfl, rfl⟩, hc2.out.set5 hA2.out.r _ _ _ _ _, low5 hA2.out.low (by omega) _ _ _ _ _⟩
  obtain ⟨b1, b2, b3, b4⟩ := spanL_true hs
  have hfair : Fair (cs ++ [⟨fr, tt, v, true⟩]) := fair_app hR.out.fair ⟨b4, b1, b2, b3⟩
  have hgv : ∀ x, fr ≤ x → x < tt → atF whole (cs ++ [⟨fr, tt, v, true⟩]) x = add4 (val l x) v := fun x h1 h2 => hR.out.given v b1 b3 h1 h2
  obtain ⟨cs2, hcs2⟩ : ∃ cs2, cs2 = cs ++ [(⟨fr, tt, v, true⟩ : Ch)] := ⟨_, rfl⟩
  have hwi := rwith_any whole (.slice ao cs.length cap) cs ⟨fr, tt, v, true⟩ w2 hc2.out (by have := hn.out; omega)
  rw [← hcs2] at hwi hfair hgv
  have hl2 : cs2.length = cs.length + 1 := by rw [hcs2]; simp
  have bd := Lib.hid (And.intro b1 (And.intro b2 b3))
  replace hs := Lib.hid hs; replace hfair := Lib.hid hfair; replace hgv := Lib.hid hgv; replace hcs2 := Lib.hid hcs2; replace hwi := Lib.hid hwi; replace hl2 := Lib.hid hl2
  clear b1 b2 b3 b4
  go_wp2_with fail
  refine hwi.out.mono ?_
  rintro e w7 ⟨sv7, rfl, hc7, hb7⟩
  obtain ⟨ao7, cap7, rfl, _⟩ := hc7.form
  obtain ⟨m, hm⟩ : ∃ m, m = cs2.length := ⟨_, rfl⟩
  rw [← hm] at hc7 ⊢
  obtain ⟨sv7, hsv7⟩ : ∃ sv7, sv7 = Value.slice ao7 m cap7 := ⟨_, rfl⟩
  have hA7 := hA2.out.below hb7
  have hbq : Below w7.heap.size w7 (w7.alloc (.cells (pcells whole (.slice ao7 m cap7)) 119 (0, 0))) := (Below.refl _ _).alloc (Nat.le_refl _) _
  have hA8 := hA7.below hbq
  have hq8 : (w7.alloc (.cells (pcells whole (.slice ao7 m cap7)) 119 (0, 0))).heap[w7.heap.size]? = some (.cells (pcells whole (.slice ao7 m cap7)) 119 (0, 0)) := blk_new _ _
  have hc8 : CRow _ (.slice ao7 m cap7) cs2 := hc7.below hbq (Nat.le_refl _)
  have htic := tic_any whole (.slice ao cs.length cap) cs fr tt _ (hc.out.below hA8.low (Nat.le_refl _)) (by have := hn.out; omega)
  clear lr lp lv p0 p1 p2 p3 p4 r0 r1 r2 r3 r4 f0 f1 f2 f3 f4 q0 q1 q2 q3
  have lp := blk_lt hA7.p
  obtain ⟨p0, p1, p2, p3, p4⟩ := pcells_at hA7.p
  have s7 := hA7.low.size
  clear hsv7 sv7
  replace hm := Lib.hid hm; replace hA7 := Lib.hid hA7; replace hbq := Lib.hid hbq; replace hA8 := Lib.hid hA8; replace hq8 := Lib.hid hq8; replace hc8 := Lib.hid hc8; replace hc7 := Lib.hid hc7; replace htic := Lib.hid htic; replace hb7 := Lib.hid hb7
  go_wp2_with fail
  refine htic.out.mono ?_
  rintro e w9 ⟨s9, zs, rfl, hI9, hT9, hb9⟩
  have hA9 := hA8.out.below hb9
  have hq9 := blk_below hb9 hq8.out (blk_lt hq8.out)
  have hc9 := hc8.out.below hb9 (Nat.le_refl _)
  obtain ⟨ao9, cap9, rfl, hLc, hcm, hao9⟩ := hI9.form
  obtain ⟨L, hL⟩ : ∃ L, L = zs.length := ⟨_, rfl⟩
  have hLn : L ≤ 9223372036854775807 := by omega
  rw [← hL] at hI9 hLc hao9 ⊢
  have hin : ∀ x, x ∈ zs → fr ≤ x ∧ x < tt := fun x hx => by
    have := bd.out
    rcases (hT9.1 x).1 hx with ⟨a, b⟩ | ⟨a, b, _⟩ <;> omega
  clear p0 p1 p2 p3 p4 lp
  obtain ⟨Q, hQ⟩ : ∃ Q, Q = w7.heap.size := ⟨_, rfl⟩
  rw [← hQ] at hq9 ⊢
  replace hI9 := Lib.hid hI9; replace hT9 := Lib.hid hT9; replace hb9 := Lib.hid hb9; replace hA9 := Lib.hid hA9; replace hq9 := Lib.hid hq9; replace hc9 := Lib.hid hc9; replace hL := Lib.hid hL; replace hao9 := Lib.hid hao9; replace hin := Lib.hid hin; replace hQ := Lib.hid hQ
  go_wp2
  go_loopw [13, 14] (fun i _ wr => ∃ k : Nat, i = .int .i64 k ∧ k ≤ L ∧ Hid (∀ j, j < k → (add4 (val l (zi zs j)) v).leq whole) ∧ Hid (Below w9.heap.size w9 wr)) (fun i _ _ => L - (intOf i).toNat)
  case atStart => exact ⟨0, rfl, Nat.zero_le _, (fun j h => absurd h (Nat.not_lt_zero j)), Below.refl _ _⟩
  case round =>
    obtain ⟨k, rfl, hk, hall, hB⟩ := hrel
    have hAr := hA9.out.below hB.out
    have hqr := blk_below hB.out hq9.out (blk_lt hq9.out)
    have hcr := hc9.out.below hB.out (Nat.le_refl _)
    have hIr := hI9.out.below hB.out (Nat.le_refl _)
    have lr := blk_lt hAr.r; have lp := blk_lt hAr.p; have lq := blk_lt hqr
    obtain ⟨p0, p1, p2, p3, p4⟩ := pcells_at hAr.p
    obtain ⟨q0, q1, q2, q3, q4⟩ := pcells_at hqr
    obtain ⟨r0, r1, r2, r3, r4⟩ := rcells_at hAr.r
    have f0 := blk_free hAr.r 0; have f1 := blk_free hAr.r 1; have f2 := blk_free hAr.r 2; have f3 := blk_free hAr.r 3; have f4 := blk_free hAr.r 4
    by_cases hc1 : k < L
    · have hc2 : (k : Int) < L := by omega
      have hk0 : (0 : Int) ≤ (k : Int) := by omega
      have hzr := hIr.ints hL.out hLn
      obtain ⟨g, off', eg, lg, b0⟩ := hzr.cell k hc1
      obtain ⟨g', eg2, _⟩ := hao9.out (by omega)
      rw [eg2] at eg
      cases eg
      subst eg2
      rw [Nat.zero_add] at b0
      obtain ⟨x, hx⟩ : ∃ x, x = zi zs k := ⟨_, rfl⟩
      rw [← hx] at b0
      have hxm : x ∈ zs := mem_zi.2 ⟨k, by rw [← hL.out]; exact hc1, hx.symm⟩
      have hxi := hin.out x hxm
      have hat := rat_any whole (.slice ao7 m cap7) cs2 x wr.drew (hcr.below (Below.refl _ _).drew (Nat.le_refl _)) hR.out.inv.right hfair.out (by have := hl2.out; have := hn.out; omega)
      rw [hgv.out x hxi.1 hxi.2] at hat
      obtain ⟨Y, hY⟩ : ∃ Y, Y = add4 (val l x) v := ⟨_, rfl⟩
      rw [← hY] at hat
      have hS0 : Hid (∀ w', Below wr.heap.size wr w' → RgS Q w.heap.size g k whole (.slice ao7 m cap7) x w') := fun w' h =>
        ⟨(below_cell h lq).trans q0, (below_cell h lq).trans q1, (below_cell h lq).trans q2, (below_cell h lq).trans q3, (below_cell h lq).trans q4, (below_cell h lp).trans p0, (below_cell h lp).trans p1, (below_cell h lp).trans p2, (below_cell h lp).trans p3, (below_cell h lg).trans b0⟩
      have hBd : Below wr.heap.size wr wr.drew := (Below.refl _ _).drew
      replace hx := Lib.hid hx; replace hxm := Lib.hid hxm; replace hxi := Lib.hid hxi; replace hat := Lib.hid hat; replace hY := Lib.hid hY; replace hBd := Lib.hid hBd
      replace hAr := Lib.hid hAr; replace hqr := Lib.hid hqr; replace hcr := Lib.hid hcr; replace hIr := Lib.hid hIr
      clear hzr
      go_wp2_with fail
      go_region_held3 (fun w' => w'.cell? ⟨Q, 0, none⟩ = some (.int .i64 whole.a) ∧ w'.cell? ⟨Q, 1, none⟩ = some (.int .i64 whole.b) ∧ w'.cell? ⟨Q, 2, none⟩ = some (.int .i64 whole.c) ∧ w'.cell? ⟨Q, 3, none⟩ = some (.int .i64 whole.d) ∧ w'.cell? ⟨Q, 4, none⟩ = some (.slice ao7 m cap7) ∧
          w'.cell? ⟨w.heap.size, 0, none⟩ = some (.int .i64 whole.a) ∧ w'.cell? ⟨w.heap.size, 1, none⟩ = some (.int .i64 whole.b) ∧ w'.cell? ⟨w.heap.size, 2, none⟩ = some (.int .i64 whole.c) ∧ w'.cell? ⟨w.heap.size, 3, none⟩ = some (.int .i64 whole.d) ∧ w'.cell? ⟨g, k, none⟩ = some (.int .i64 x))
        (first
          | exact hS0.out _ hBd.out
          | exact hS0.out _ hb6.out
          | exact hS0.out _ hb5.out)
        (first
          | (go_at_call 110
             refine hat.out.mono ?_
             rintro e w5 ⟨rfl, hb5⟩
             replace hb5 := Lib.hid (hBd.out.trans (hb5.mono hBd.out.size)))
          | (go_at_call 28
             refine (fits3_any Y whole w5).mono ?_
             rintro e w6 ⟨rfl, hb6⟩
             replace hb6 := Lib.hid (hb5.out.trans (hb6.mono hb5.out.size))))
      have hA6 := hAr.out.below hb6.out
      have hB6 := hB.out.trans (hb6.out.mono hB.out.size)
      clear lr lp lq p0 p1 p2 p3 p4 q0 q1 q2 q3 q4 r0 r1 r2 r3 r4 f0 f1 f2 f3 f4
      have lr := blk_lt hA6.r; have lp := blk_lt hA6.p
      obtain ⟨p0, p1, p2, p3, p4⟩ := pcells_at hA6.p
      obtain ⟨r0, r1, r2, r3, r4⟩ := rcells_at hA6.r
      have f0 := blk_free hA6.r 0; have f1 := blk_free hA6.r 1; have f2 := blk_free hA6.r 2; have f3 := blk_free hA6.r 3; have f4 := blk_free hA6.r 4
      replace hA6 := Lib.hid hA6; replace hB6 := Lib.hid hB6
      cases hft : Y.fits whole
      · have hno : ¬ (∀ u, fr ≤ u → u < tt → (add4 (val l u) v).leq whole) := fun h => fits_false.1 hft (by rw [hY.out]; exact h x hxi.out.1 hxi.out.2)
        replace hft := Lib.hid hft; replace hno := Lib.hid hno
        go_wp2
        refine bodyPost_ret (v := .tuple #[pval whole (.slice ao cs.length cap), .int .i64 61]) (by simp [results, Try.results106, go_sem, r0, r1, r2, r3, r4]) rfl ⟨61, _, cs, rfl, .inr (.inl ⟨hs.out, hno.out, rfl, rfl⟩), (hc.out.below hA6.out.low (Nat.le_refl _)).set5 hA6.out.r _ _ _ _ _, low5 hA6.out.low (by omega) _ _ _ _ _⟩
      · have hnext : ∀ j, j < k + 1 → (add4 (val l (zi zs j)) v).leq whole := fun j hj => by
          by_cases e : j = k
          · subst e; rw [← hx.out, ← hY.out]; exact fits_iff.1 hft
          · exact hall.out j (by omega)
        replace hft := Lib.hid hft; replace hnext := Lib.hid hnext
        go_wp2
        go_roundw
        case rel => exact ⟨k + 1, by go_num, by omega, hnext.out, hB6.out⟩
        case measure => simp [intOf]; omega
    · have hc2 : ¬ (k : Int) < L := by omega
      have hyes : ∀ u, fr ≤ u → u < tt → (add4 (val l u) v).leq whole := fun u h1 h2 => by
        have hb := bd.out
        obtain ⟨t, ht, _, _, e⟩ := hR.out.tick hT9.out (by omega) (by omega) (u := u) (by omega) (by omega)
        obtain ⟨j, hj, e2⟩ := mem_zi.1 ht
        rw [← e, ← e2]
        exact hall.out j (by rw [← hL.out] at hj; omega)
      have hres : CRow wr (.slice ao7 m cap7) cs2 := hcr
      replace hyes := Lib.hid hyes; replace hres := Lib.hid hres; replace hAr := Lib.hid hAr; replace hqr := Lib.hid hqr; replace hcr := Lib.hid hcr; replace hIr := Lib.hid hIr
      go_wp2
      refine bodyPost_ret (v := .tuple #[pval whole (.slice ao7 m cap7), .int .i64 0]) (by simp [results, Try.results106, go_sem, r0, r1, r2, r3, r4]) rfl ⟨0, _, cs2, rfl, .inr (.inr ⟨hs.out, hyes.out, rfl, hcs2.out⟩), hres.out.set5 hAr.out.r _ _ _ _ _, low5 hAr.out.low (by omega) _ _ _ _ _⟩
end Go.Proofs.Ytpjajiambbobhaa

/- The document's pool, in memory; corveeref07.Pool.Gang and Free. -/
namespace Go.Proofs.Ytpjajiambbobhaa
open Go.RowKit

structure Rp where
  whole : V4
  sv : Value
  cs : List Ch
def Rp.none : Rp := ⟨V4.zero, .slice .none 0 0, []⟩
def rp (l : List Rp) (i : Nat) : Rp := l.getD i Rp.none
def flatP (l : List Rp) : List Value := l.flatMap fun p => (pcells p.whole p.sv).toList
theorem flatP_length (l : List Rp) : (flatP l).length = l.length * 5 := by
  unfold flatP
  induction l with
  | nil => rfl
  | cons c r ih => rw [List.flatMap_cons, List.length_append, ih]; simp; omega
theorem flatP_append (l r : List Rp) : flatP (l ++ r) = flatP l ++ flatP r := by simp [flatP]
theorem flatP_one (c : Rp) : flatP [c] = (pcells c.whole c.sv).toList := by simp [flatP]
theorem flatP_get (l : List Rp) {i j : Nat} (hi : i < l.length) (hj : j < 5) : (flatP l)[i * 5 + j]? = (pcells (rp l i).whole (rp l i).sv)[j]? := by
  unfold flatP
  induction l generalizing i with
  | nil => simp at hi
  | cons c r ih =>
    rw [List.flatMap_cons]
    cases i with
    | zero =>
      rw [List.getElem?_append_left (by simp; omega)]
      simp [rp]
    | succ i =>
      rw [List.getElem?_append_right (by simp; omega)]
      have := ih (i := i) (by simpa using hi)
      rw [show (i + 1) * 5 + j - (pcells c.whole c.sv).toList.length = i * 5 + j by simp; omega, this]
      simp [rp]
theorem rp_set {rs : List Rp} {i : Nat} (x : Rp) (hi : i < rs.length) (j : Nat) : rp (rs.set i x) j = if j = i then x else rp rs j := by
  unfold rp
  by_cases h : j = i
  · subst h; rw [if_pos rfl]; simp [List.getD, hi]
  · rw [if_neg h]; simp [List.getD, Ne.symm h]

def PRow (w : World) (sv : Value) (rs : List Rp) : Prop := w.ownsRow 0 119 5 sv rs.length (flatP rs)
theorem PRow.below {w w' : World} {sv : Value} {rs : List Rp} {B : Nat} (h : PRow w sv rs) (hb : Below B w w') (hB : w.heap.size ≤ B) : PRow w' sv rs := owns_below h hb hB
theorem PRow.form {w : World} {sv : Value} {rs : List Rp} (h : PRow w sv rs) : ∃ ao cap, sv = .slice ao rs.length cap ∧ (0 < rs.length → ∃ g, ao = some ⟨g, 0, .none⟩ ∧ g < w.heap.size) := by
  rcases h.2 with ⟨rfl, h0⟩ | ⟨g, cap, cur, rfl, _, hh, _⟩
  · exact ⟨.none, 0, by rw [h0], fun h1 => by omega⟩
  · exact ⟨some ⟨g, 0, .none⟩, cap, rfl, fun _ => ⟨g, rfl, blk_lt hh⟩⟩
theorem PRow.cells {w : World} {g cap n : Nat} {rs : List Rp} (h : PRow w (.slice (some ⟨g, 0, .none⟩) n cap) rs) (hn : n = rs.length) {i : Nat} (hi : i < rs.length) :
    w.cell? ⟨g, i * 5, .none⟩ = some (.int .i64 (rp rs i).whole.a) ∧ w.cell? ⟨g, i * 5 + 1, .none⟩ = some (.int .i64 (rp rs i).whole.b) ∧ w.cell? ⟨g, i * 5 + 2, .none⟩ = some (.int .i64 (rp rs i).whole.c) ∧ w.cell? ⟨g, i * 5 + 3, .none⟩ = some (.int .i64 (rp rs i).whole.d) ∧ w.cell? ⟨g, i * 5 + 4, .none⟩ = some (rp rs i).sv := by
  subst hn
  have key : ∀ j, j < 5 → w.cell? ⟨g, i * 5 + j, .none⟩ = (pcells (rp rs i).whole (rp rs i).sv)[j]? := fun j hj => by
    rw [World.ownsRow.cellAt h (i * 5 + j) (by omega), flatP_get rs hi hj]
  exact ⟨key 0 (by omega), key 1 (by omega), key 2 (by omega), key 3 (by omega), key 4 (by omega)⟩

/-- the document's pool tells what the pool of nodes tells; each node has had no more than so many changes -/
structure RPool (w : World) (sv : Value) (rs : List Rp) (ps : List Nd) (N : Nat) : Prop where
  row : PRow w sv rs
  len : rs.length = ps.length
  one : ∀ i, i < rs.length → CRow w (rp rs i).sv (rp rs i).cs ∧ (rp rs i).whole = (nd ps i).whole ∧ RelC (rp rs i).whole (rp rs i).cs (nd ps i).l ∧ (rp rs i).cs.length ≤ N
theorem RPool.below {w w' : World} {sv : Value} {rs : List Rp} {ps : List Nd} {N B : Nat} (h : RPool w sv rs ps N) (hb : Below B w w') (hB : w.heap.size ≤ B) : RPool w' sv rs ps N :=
  ⟨h.row.below hb hB, h.len, fun i hi => ⟨(h.one i hi).1.below hb hB, (h.one i hi).2⟩⟩

def RGangPost (n : Nat) (zs : List Int) (w : World) (e : Ending) (w' : World) : Prop :=
  ∃ b : Bool, e = .returned (.bool b) ∧ (b = true ↔ Gang n zs) ∧ Below w.heap.size w w'

set_option maxRecDepth 100000 in
set_option maxHeartbeats 3200000 in
theorem rgang_any (po : Option Addr) (n pc : Nat) (ao : Option Addr) (m c : Nat) (zs : List Int) (w : World) (hz : IntsAt w ao m zs) :
    Calls Try.prog 104 #[.agg #[.slice po n pc], .slice ao m c] w (RGangPost n zs w) := by
  have hB0 : Below w.heap.size w (w.alloc (.cells #[.slice po n pc] 67 (0, 0))) := (Below.refl _ _).alloc (Nat.le_refl _) _
  have hp0 : (w.alloc (.cells #[.slice po n pc] 67 (0, 0))).heap[w.heap.size]? = some (.cells #[.slice po n pc] 67 (0, 0)) := blk_new _ _
  have hlen := hz.len
  have hmax := hz.max
  replace hz := Lib.hid hz; replace hlen := Lib.hid hlen; replace hB0 := Lib.hid hB0; replace hp0 := Lib.hid hp0
  go_enter Try.func104, Try.ntmps104
  go_wp2
  go_loopw [5] (fun i wr => ∃ k : Nat, i = .int .i64 k ∧ k ≤ m ∧ Hid (∀ i, i < k → 0 ≤ zi zs i ∧ zi zs i < n ∧ (∀ j, i = j + 1 → zi zs j < zi zs i)) ∧ Hid (wr.heap[w.heap.size]? = some (.cells #[.slice po n pc] 67 (0, 0))) ∧ Hid (Below w.heap.size w wr)) (fun i _ => m - (intOf i).toNat)
  case atStart => exact ⟨0, rfl, Nat.zero_le _, (fun i h => absurd h (Nat.not_lt_zero i)), hp0.out, hB0.out⟩
  case round =>
    obtain ⟨k, rfl, hk, hall, hp, hBr⟩ := hrel
    have g0 := blk_cell hp.out 0
    simp at g0
    have lp := blk_lt hp.out
    by_cases hc : k < m
    · have hc1 : (k : Int) < m := by omega
      have hk0 : (0 : Int) ≤ (k : Int) := by omega
      obtain ⟨b, off, rfl, hb, a0⟩ := hz.out.cell k hc
      have b0 := (below_cell hBr.out hb).trans a0
      clear a0
      obtain ⟨x, hx⟩ : ∃ x, x = zi zs k := ⟨_, rfl⟩
      rw [← hx] at b0
      have hBd : Hid (∀ N, Below w.heap.size w (wr.drewN N)) := fun N => ⟨hBr.out.os, hBr.out.tape, hBr.out.output, hBr.out.size, hBr.out.block⟩
      have bad : Hid (¬ (0 ≤ x ∧ x < n ∧ ∀ j, k = j + 1 → zi zs j < x) → ¬ Gang n zs) := fun h hg => by
        have hkz : k < zs.length := by rw [hlen.out]; exact hc
        refine h ⟨by rw [hx]; exact hg.low k hkz, by rw [hx]; exact hg.high k hkz, fun j e => ?_⟩
        subst e
        rw [hx]; exact hg.rise j hkz
      replace hx := Lib.hid hx
      by_cases q1 : x < 0
      · have d1 : decide (x < 0) = true := by simpa using q1
        have hbad := bad.out (by omega)
        replace q1 := Lib.hid q1; replace hbad := Lib.hid hbad
        go_wp2
        go_quiet (fail)
        go_wp2
        go_ret
        exact ⟨false, rfl, ⟨fun h => (by simp at h), fun h => absurd h hbad.out⟩, hBd.out _⟩
      have d1 : decide (x < 0) = false := by simpa using q1
      by_cases q2 : (n : Int) ≤ x
      · have d2 : decide ((n : Int) ≤ x) = true := by simpa using q2
        have hbad := bad.out (by omega)
        replace q1 := Lib.hid q1; replace q2 := Lib.hid q2; replace hbad := Lib.hid hbad
        go_wp2
        go_quiet (fail)
        go_wp2
        go_ret
        exact ⟨false, rfl, ⟨fun h => (by simp at h), fun h => absurd h hbad.out⟩, hBd.out _⟩
      have d2 : decide ((n : Int) ≤ x) = false := by simpa using q2
      by_cases k0 : k = 0
      · have dk : decide (0 < (k : Int)) = false := by simp; omega
        have dk2 : decide (0 < k) = false := by simp; omega
        have hnext : ∀ i, i < k + 1 → 0 ≤ zi zs i ∧ zi zs i < n ∧ (∀ j, i = j + 1 → zi zs j < zi zs i) := by
          intro i hi
          have : i = k := by omega
          subst this
          exact ⟨by rw [← hx.out]; omega, by rw [← hx.out]; omega, fun j e => by omega⟩
        replace q1 := Lib.hid q1; replace q2 := Lib.hid q2; replace hnext := Lib.hid hnext; replace k0 := Lib.hid k0
        go_wp2
        go_quiet (fail)
        go_wp2
        go_roundw
        case rel => exact ⟨k + 1, by go_num, by omega, hnext.out, hp.out, hBd.out _⟩
        case measure => simp [intOf]; omega
      · obtain ⟨j, hj⟩ : ∃ j, k = j + 1 := ⟨k - 1, by omega⟩
        have dk : decide (0 < (k : Int)) = true := by simp; omega
        have dk2 : decide (0 < k) = true := by simp; omega
        have ej : IntKind.i64.wrap ((k : Int) - 1) = (j : Int) := by rw [IntWalk.i64_in _ (by omega)]; omega
        have hj1 : (j : Int) < m := by omega
        have hj0 : (0 : Int) ≤ (j : Int) := by omega
        obtain ⟨b', off', e', hb', a1⟩ := hz.out.cell j (by omega)
        cases e'
        have b1 := (below_cell hBr.out hb').trans a1
        clear a1
        obtain ⟨y, hy⟩ : ∃ y, y = zi zs j := ⟨_, rfl⟩
        rw [← hy] at b1
        by_cases q3 : x ≤ y
        · have d3 : decide (x ≤ y) = true := by simpa using q3
          have hbad := bad.out (fun h => by have := h.2.2 j hj; rw [← hy] at this; omega)
          replace q1 := Lib.hid q1; replace q2 := Lib.hid q2; replace q3 := Lib.hid q3; replace hbad := Lib.hid hbad; replace hy := Lib.hid hy; replace hj := Lib.hid hj; replace k0 := Lib.hid k0
          go_wp2
          go_quiet (fail)
          go_wp2
          go_ret
          exact ⟨false, rfl, ⟨fun h => (by simp at h), fun h => absurd h hbad.out⟩, hBd.out _⟩
        · have d3 : decide (x ≤ y) = false := by simpa using q3
          have hnext : ∀ i, i < k + 1 → 0 ≤ zi zs i ∧ zi zs i < n ∧ (∀ j, i = j + 1 → zi zs j < zi zs i) := by
            intro i hi
            by_cases e : i = k
            · subst e
              refine ⟨by rw [← hx.out]; omega, by rw [← hx.out]; omega, fun j2 e => ?_⟩
              have : j2 = j := by omega
              subst this
              rw [← hx.out, ← hy]; omega
            · exact hall.out i (by omega)
          replace q1 := Lib.hid q1; replace q2 := Lib.hid q2; replace q3 := Lib.hid q3; replace hnext := Lib.hid hnext; replace hy := Lib.hid hy; replace hj := Lib.hid hj; replace k0 := Lib.hid k0
          go_wp2
          go_quiet (fail)
          go_wp2
          go_roundw
          case rel => exact ⟨k + 1, by go_num, by omega, hnext.out, hp.out, hBd.out _⟩
          case measure => simp [intOf]; omega
    · have hc1 : ¬ (k : Int) < m := by omega
      have hkm : k = m := by omega
      by_cases h0 : m = 0
      · have d0 : decide (0 < (m : Int)) = false := by simp; omega
        have d02 : decide (0 < m) = false := by simp; omega
        replace h0 := Lib.hid h0; replace hkm := Lib.hid hkm
        go_wp2
        go_ret
        exact ⟨false, rfl, ⟨fun h => (by simp at h), fun h => by have := h.pos; have := hlen.out; have := h0.out; omega⟩, hBr.out⟩
      · have d0 : decide (0 < (m : Int)) = true := by simp; omega
        have d02 : decide (0 < m) = true := by simp; omega
        have hg : Gang n zs := ⟨by rw [hlen.out]; omega, fun i hi => by rw [hlen.out] at hi; exact (hall.out i (by omega)).1, fun i hi => by rw [hlen.out] at hi; exact (hall.out i (by omega)).2.1, fun i hi => by rw [hlen.out] at hi; exact (hall.out (i + 1) (by omega)).2.2 i rfl⟩
        replace h0 := Lib.hid h0; replace hkm := Lib.hid hkm; replace hg := Lib.hid hg
        go_wp2
        go_ret
        exact ⟨true, rfl, ⟨fun _ => hg.out, fun _ => rfl⟩, hBr.out⟩
end Go.Proofs.Ytpjajiambbobhaa

/- corveeref07.Pool.Free and with. -/
namespace Go.Proofs.Ytpjajiambbobhaa
open Go.RowKit

set_option maxRecDepth 100000 in
set_option maxHeartbeats 1600000 in
theorem rpfree_any (sv : Value) (rs : List Rp) (ps : List Nd) (N : Nat) (i fr tt : Int) (w : World) (hp : RPool w sv rs ps N) (hN : N ≤ 100000) :
    Calls Try.prog 46 #[.agg #[sv], .int .i64 i, .int .i64 fr, .int .i64 tt] w fun e w' => e = .returned (freeG ps i fr tt).val ∧ Below w.heap.size w w' := by
  obtain ⟨po, pc, rfl, hao⟩ := hp.row.form
  obtain ⟨n, hn⟩ : ∃ n, n = rs.length := ⟨_, rfl⟩
  have hnp : n = ps.length := by rw [hn]; exact hp.len
  have hno : ¬ (0 ≤ i ∧ i < ps.length) → freeG ps i fr tt = V4.zero := fun h => if_neg h
  rw [← hn] at hao hp ⊢
  have hbl : Below w.heap.size w ((w.alloc (.cells #[.slice po n pc] 67 (0, 0))).alloc (.cells V4.zero.cells 23 (0, 0))) := ((Below.refl _ _).alloc (Nat.le_refl _) _).alloc (by simp) _
  replace hno := Lib.hid hno; replace hao := Lib.hid hao
  by_cases q1 : i < 0
  · have d1 : decide (i < 0) = true := by simpa using q1
    have e := hno.out (by omega)
    rw [e]
    clear hp e
    replace q1 := Lib.hid q1; replace hbl := Lib.hid hbl; replace hn := Lib.hid hn; replace hnp := Lib.hid hnp
    go_enter Try.func46, Try.ntmps46
    go_wp2
    refine bodyPost_ret (v := V4.zero.val) (by simp [results, Try.results46, go_sem, V4.zero]) rfl ⟨rfl, ?_⟩
    exact hbl.out
  have d1 : decide (i < 0) = false := by simpa using q1
  by_cases q2 : (n : Int) ≤ i
  · have d2 : decide ((n : Int) ≤ i) = true := by simpa using q2
    have e := hno.out (by omega)
    rw [e]
    clear hp e
    replace q1 := Lib.hid q1; replace q2 := Lib.hid q2; replace hbl := Lib.hid hbl; replace hn := Lib.hid hn; replace hnp := Lib.hid hnp
    go_enter Try.func46, Try.ntmps46
    go_wp2
    refine bodyPost_ret (v := V4.zero.val) (by simp [results, Try.results46, go_sem, V4.zero]) rfl ⟨rfl, ?_⟩
    exact hbl.out
  have d2 : decide ((n : Int) ≤ i) = false := by simpa using q2
  obtain ⟨k, rfl⟩ : ∃ k : Nat, i = (k : Int) := ⟨i.toNat, by omega⟩
  have hkn1 : (k : Int) < n := by omega
  have hk0 : (0 : Int) ≤ (k : Int) := by omega
  have hkr : k < rs.length := by omega
  obtain ⟨g, hg1, hg⟩ := hao.out (by omega)
  subst hg1
  have hpc := hp.row.cells hn hkr
  obtain ⟨hcr, hwh, hrel, hlN⟩ := hp.one k hkr
  obtain ⟨x, hx⟩ : ∃ x, x = rp rs k := ⟨_, rfl⟩
  rw [← hx] at hpc hcr hwh hrel hlN
  have e : freeG ps (k : Int) fr tt = freeL x.whole (nd ps k).l fr tt := by
    unfold freeG
    rw [if_pos (by omega), hwh]; simp
  obtain ⟨F, hF⟩ : ∃ F, F = freeL x.whole (nd ps k).l fr tt := ⟨_, rfl⟩
  rw [e, ← hF]
  obtain ⟨W, hW⟩ : ∃ W, W = ((w.alloc (.cells #[.slice (some ⟨g, 0, none⟩) n pc] 67 (0, 0))).alloc (.cells V4.zero.cells 23 (0, 0))) := ⟨_, rfl⟩
  rw [← hW] at hbl
  have hfr := rfree_any x.whole x.sv x.cs (nd ps k).l fr tt W (hcr.below hbl (Nat.le_refl _)) (by omega) hrel
  rw [← hF] at hfr
  have hz : W.heap[w.heap.size + 1]? = some (.cells V4.zero.cells 23 (0, 0)) := by rw [hW]; exact blk_at _ _ (by simp)
  obtain ⟨b0, b1, b2, b3, b4⟩ := hpc
  have hWw := hW
  rw [hW] at hfr
  clear e hno hp hao
  replace q1 := Lib.hid q1; replace q2 := Lib.hid q2; replace hn := Lib.hid hn; replace hnp := Lib.hid hnp; replace hx := Lib.hid hx; replace hcr := Lib.hid hcr; replace hwh := Lib.hid hwh; replace hrel := Lib.hid hrel; replace hF := Lib.hid hF; replace hbl := Lib.hid hbl
  replace hfr := Lib.hid hfr; replace hz := Lib.hid hz; replace hW := Lib.hid hW; replace hWw := Lib.hid hWw
  go_enter Try.func46, Try.ntmps46
  go_wp2_with fail
  refine hfr.out.mono ?_
  rintro e2 w2 ⟨rfl, hb2⟩
  rw [← hW.out] at hb2
  have hz2 := blk_below hb2 hz.out (blk_lt hz.out)
  have hone : F.cells.all (·.oneCell') = true := by simp [Value.oneCell']
  have hend := setRow_heap w2 (w.heap.size + 1) _ F.cells 23 (0, 0) hz2
  have hBe : Below w.heap.size w (w2.setRow (w.heap.size + 1) F.cells) := below_row (hbl.out.trans (hb2.mono hbl.out.size)) (Nat.le_succ _) F.cells
  clear b0 b1 b2 b3 b4
  replace hz2 := Lib.hid hz2; replace hb2 := Lib.hid hb2; replace hend := Lib.hid hend; replace hBe := Lib.hid hBe
  go_wp2_with (first | (refine wpList_store_row rfl 23 _ _ rfl (w.heap.size + 1) F.cells rfl rfl 23 _ hz2.out info23s rfl hone ?_))
  refine bodyPost_ret (v := F.val) ?_ rfl ?_
  · exact results_cell_row rfl _ _ (w.heap.size + 1) 23 F.cells (0, 0) _ rfl hend.out Try.underlying23 rfl info23s
  · exact ⟨rfl, hBe.out⟩

theorem flatP_set (rs : List Rp) (i : Nat) (x : Rp) (hi : i < rs.length) :
    (((((flatP rs).set (i * 5) (.int .i64 x.whole.a)).set (i * 5 + 1) (.int .i64 x.whole.b)).set (i * 5 + 2) (.int .i64 x.whole.c)).set (i * 5 + 3) (.int .i64 x.whole.d)).set (i * 5 + 4) x.sv = flatP (rs.set i x) := by
  induction rs generalizing i with
  | nil => simp at hi
  | cons c r ih =>
    cases i with
    | zero => simp [flatP]
    | succ i =>
      have h := ih i (by simpa using hi)
      have e : ∀ (l : List Value) (j : Nat) (u : Value), ((pcells c.whole c.sv).toList ++ l).set ((i + 1) * 5 + j) u = (pcells c.whole c.sv).toList ++ l.set (i * 5 + j) u := fun l j u => by
        rw [List.set_append_right _ _ (by simp; omega)]
        congr 2
        simp; omega
      have e0 := fun (l : List Value) (u : Value) => e l 0 u
      simp only [Nat.add_zero] at e0
      show ((((((pcells c.whole c.sv).toList ++ flatP r).set ((i + 1) * 5) _).set ((i + 1) * 5 + 1) _).set ((i + 1) * 5 + 2) _).set ((i + 1) * 5 + 3) _).set ((i + 1) * 5 + 4) _ = (pcells c.whole c.sv).toList ++ flatP (r.set i x)
      rw [e0, e, e, e, e, h]
theorem flatP_oneCell (l : List Rp) (h : ∀ i, i < l.length → (rp l i).sv.oneCell' = true) : ∀ u ∈ flatP l, u.oneCell' = true := by
  intro u hu
  obtain ⟨c, hc, h2⟩ := List.mem_flatMap.1 hu
  obtain ⟨i, hi, e⟩ := List.mem_iff_getElem.1 hc
  have h3 := h i hi
  have e2 : rp l i = c := by rw [← e]; simp [rp, List.getD, hi]
  rw [e2] at h3
  simp at h2
  rcases h2 with rfl | rfl | rfl | rfl | rfl
  · rfl
  · rfl
  · rfl
  · rfl
  · exact h3
end Go.Proofs.Ytpjajiambbobhaa

/- corveeref07.Pool.with: a pool with another profile. -/
namespace Go.Proofs.Ytpjajiambbobhaa
open Go.RowKit

theorem owns_set5 {w : World} {base g cap n : Nat} {rs : List Rp} {x : Rp} {i : Nat} (h : w.ownsRow base 119 5 (.slice (some ⟨g, 0, none⟩) n cap) n (flatP rs)) (hi : i < rs.length) :
    (((((w.setCell ⟨g, i * 5, none⟩ (.int .i64 x.whole.a)).setCell ⟨g, i * 5 + 1, none⟩ (.int .i64 x.whole.b)).setCell ⟨g, i * 5 + 2, none⟩ (.int .i64 x.whole.c)).setCell ⟨g, i * 5 + 3, none⟩ (.int .i64 x.whole.d)).setCell ⟨g, i * 5 + 4, none⟩ x.sv).ownsRow base 119 5 (.slice (some ⟨g, 0, none⟩) n cap) n (flatP (rs.set i x)) := by
  have h1 := (World.ownsRow.stored h (i * 5) (.int .i64 x.whole.a)).1
  have h2 := (World.ownsRow.stored h1 (i * 5 + 1) (.int .i64 x.whole.b)).1
  have h3 := (World.ownsRow.stored h2 (i * 5 + 2) (.int .i64 x.whole.c)).1
  have h4 := (World.ownsRow.stored h3 (i * 5 + 3) (.int .i64 x.whole.d)).1
  have h5 := (World.ownsRow.stored h4 (i * 5 + 4) x.sv).1
  rw [flatP_set rs i x hi] at h5
  exact h5

def PwPost (rs : List Rp) (w : World) (e : Ending) (w' : World) : Prop := ∃ sv, e = .returned (.agg #[sv]) ∧ PRow w' sv rs ∧ Below w.heap.size w w'

set_option maxRecDepth 100000 in
set_option maxHeartbeats 1600000 in
theorem rpwith_any (sv : Value) (rs : List Rp) (i : Nat) (x : Rp) (w : World) (hp : PRow w sv rs) (hi : i < rs.length) (hn : rs.length ≤ 16) (h1 : ∀ j, j < rs.length → (rp rs j).sv.oneCell' = true) (hx : ∃ ao n cap, x.sv = .slice ao n cap) :
    Calls Try.prog 107 #[.agg #[sv], .int .i64 i, pval x.whole x.sv] w (PwPost (rs.set i x) w) := by
  obtain ⟨i119, hi9, hz, hz1, hz2⟩ := info_parts info119
  obtain ⟨xo, xn, xc, hxs⟩ := hx
  obtain ⟨xw, xv, xcs⟩ := x
  simp only at hxs
  subst hxs
  obtain ⟨xr, hxr⟩ : ∃ xr : Rp, xr = ⟨xw, .slice xo xn xc, xcs⟩ := ⟨_, rfl⟩
  have hflat := flatP_oneCell rs h1
  obtain ⟨po, pc, rfl, _⟩ := hp.form
  obtain ⟨n, hnn⟩ : ∃ n, n = rs.length := ⟨_, rfl⟩
  have hin : i < n := by omega
  obtain ⟨W, hW⟩ : ∃ W, W = ((w.alloc (.cells #[.slice po n pc] 67 (0, 0))).alloc (.cells #[.int .i64 xw.a, .int .i64 xw.b, .int .i64 xw.c, .int .i64 xw.d, .slice xo xn xc] 119 (0, 0))).alloc (.cells #[.slice none 0 0] 67 (0, 0)) := ⟨_, rfl⟩
  have hB0 : Below w.heap.size w W := by rw [hW]; exact below3w w _ _ _
  have hx0 : W.heap[w.heap.size + 1]? = some (.cells #[.int .i64 xw.a, .int .i64 xw.b, .int .i64 xw.c, .int .i64 xw.d, .slice xo xn xc] 119 (0, 0)) := by rw [hW]; exact blk_old _ (blk_at _ _ (by simp))
  have hr0 : W.heap[w.heap.size + 1 + 1]? = some (.cells #[.slice none 0 0] 67 (0, 0)) := by rw [hW]; exact blk_at _ _ (by simp)
  have sW : W.heap.size = w.heap.size + 1 + 1 + 1 := by rw [hW]; simp
  rw [← hnn] at hp ⊢
  have hX : W.ownsRow 0 119 5 (.slice po n pc) n (flatP rs) := by
    have := hp.below hB0 (Nat.le_refl _)
    unfold PRow at this
    rw [← hnn] at this
    exact this
  have hnil0 : W.ownsRow (w.heap.size + 1 + 1 + 1) 119 5 (.slice none 0 0) 0 [] := World.ownsRow_nil _ _ _ _
  have h63 : 0 + n ≤ maxLen := by
    have : maxLen = 9223372036854775807 := by kernel_rfl
    omega
  have hby : (0 + n) * 56 ≤ 140737488355328 := by omega
  have hbas : w.heap.size + 1 + 1 + 1 ≤ W.heap.size := by omega
  have s5 : 0 < 5 := by omega
  have hnil1 := nil_own (w.heap.size + 1 + 1 + 1)
  have hpos : 0 < 0 + n := by omega
  have hi0 : (0 : Int) ≤ (i : Int) := by omega
  have hi1 : (i : Int) < n := by omega
  have hltb : w.heap.size + 1 < w.heap.size + 1 + 1 + 1 := by omega
  have hltr : w.heap.size + 1 + 1 < w.heap.size + 1 + 1 + 1 := by omega
  have hW2 := hW
  have hcell : ∀ (w2 : World) (g cap : Nat), w2.ownsRow (w.heap.size + 1 + 1 + 1) 119 5 (.slice (some ⟨g, 0, none⟩) (0 + n) cap) (0 + n) ([] ++ flatP rs) → w2.ownsRow (w.heap.size + 1 + 1 + 1) 119 5 (.slice (some ⟨g, 0, none⟩) n cap) n (flatP rs) := fun w2 g cap h => by simpa using h
  have hPc : ∀ (w2 : World) (g cap : Nat), w2.ownsRow (w.heap.size + 1 + 1 + 1) 119 5 (.slice (some ⟨g, 0, none⟩) n cap) n (flatP rs) → PRow w2 (.slice (some ⟨g, 0, none⟩) n cap) rs := fun w2 g cap h => by
    unfold PRow
    rw [← hnn]
    exact owns_mono h (Nat.zero_le _)
  rw [hW] at hX hnil0 hbas
  replace hB0 := Lib.hid hB0; replace hx0 := Lib.hid hx0; replace hr0 := Lib.hid hr0; replace sW := Lib.hid sW; replace hX := Lib.hid hX; replace hnil0 := Lib.hid hnil0; replace hflat := Lib.hid hflat
  replace h63 := Lib.hid h63; replace hby := Lib.hid hby; replace hbas := Lib.hid hbas; replace hW := Lib.hid hW; replace hW2 := Lib.hid hW2; replace hp := Lib.hid hp; replace hnn := Lib.hid hnn; replace hn := Lib.hid hn; replace hnil1 := Lib.hid hnil1
  replace hpos := Lib.hid hpos; replace hcell := Lib.hid hcell; replace hPc := Lib.hid hPc; replace hxr := Lib.hid hxr; replace h1 := Lib.hid h1; replace hi := Lib.hid hi
  go_enter Try.func107, Try.ntmps107
  go_wp2_with (first
    | (at_builtin; refine wpList_append_row rfl _ _ 65 rfl (w.heap.size + 1 + 1 + 1) 119 i119 _ 5 56 Try.underlying65 hi9 hz hz1 hz2 rfl s5 (.slice none 0 0) 0 [] rfl hnil0.out (.slice po n pc) n _ rfl hX.out hflat.out h63.out hby.out hbas.out ?_; intro v1 w2 hown2 hgrow2; obtain ⟨g2, cap2, rfl⟩ := Joins.ownsRow_form hown2 hpos.out; have hG2 := (Below.refl _ _).grown hgrow2 hbas.out hnil1.out; rw [← hW2.out] at hG2; replace hown2 := hcell.out _ _ _ hown2; have hx2 := blk_below hG2 hx0.out hltb; have hr2 := blk_below hG2 hr0.out hltr; have y0 := blk_cell hx2 0; have y1 := blk_cell hx2 1; have y2 := blk_cell hx2 2; have y3 := blk_cell hx2 3; have y4 := blk_cell hx2 4; simp at y0 y1 y2 y3 y4; obtain ⟨c0, c1, c2, c3, c4⟩ := (hPc.out _ _ _ hown2).cells hnn.out hi.out; have f0 := World.ownsRow.frozenAt hown2 (i * 5); have f1 := World.ownsRow.frozenAt hown2 (i * 5 + 1); have f2 := World.ownsRow.frozenAt hown2 (i * 5 + 2); have f3 := World.ownsRow.frozenAt hown2 (i * 5 + 3); have f4 := World.ownsRow.frozenAt hown2 (i * 5 + 4); have r0 := blk_cell hr2 0; have fr0 := blk_free hr2 0; simp at r0; have lx := blk_lt hx2; have lr := blk_lt hr2; have lg := (World.ownsRow.lt hown2 g2 rfl).2; have lg1 := (World.ownsRow.lt hown2 g2 rfl).1; replace hx2 := Lib.hid hx2; replace hr2 := Lib.hid hr2; replace hG2 := Lib.hid hG2; replace hown2 := Lib.hid hown2; replace hgrow2 := Lib.hid hgrow2))
  refine bodyPost_ret (v := .agg #[.slice (some ⟨g2, 0, none⟩) n cap2]) (by simp [results, Try.results107, go_sem, r0]) rfl ⟨_, rfl, ?_, ?_⟩
  · have h := owns_set5 (x := ⟨xw, .slice xo xn xc, xcs⟩) hown2.out hi.out
    unfold PRow
    rw [List.length_set, ← hnn.out]
    refine owns_same (owns_mono h (Nat.zero_le _)) fun g hg => ?_
    have hgg : g2 = g := by simpa [Value.ownBlock] using hg
    have hne : g ≠ w.heap.size + 1 + 1 := by omega
    exact Below.heap_setCell _ _ _ _ hne
  · have h3 := hB0.out.trans (hG2.out.mono (by omega))
    have hg2 : w.heap.size ≤ g2 := by omega
    have hr2 : w.heap.size ≤ w.heap.size + 1 + 1 := by omega
    exact (((((h3.setCell hg2 _).setCell hg2 _).setCell hg2 _).setCell hg2 _).setCell hg2 _).setCell hr2 _
end Go.Proofs.Ytpjajiambbobhaa
