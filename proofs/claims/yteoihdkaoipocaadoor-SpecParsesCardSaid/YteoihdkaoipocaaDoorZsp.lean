/- Any text is parsed as told, or refused at the word told: for every input the law returns true, and each argument reads behind the call as it read before. The listed variables are laid and tied. No further condition. -/
import Derived.Test.YteoihdkaoipocaaDoorQa
import Derived.Test.YteoihdkaoipocaaDoorRows
import Derived.Test.YteoihdkaoipocaaDoorTie
import Derived.Test.YteoihdkaoipocaaDoorCards
import Derived.ProofKit
import Derived.OpenShut
import Derived.LaidMore
import Derived.Lay
import Derived.SevenTiedAt
import Derived.Stop.Joined
import Derived.Shelf.Vars
import Derived.Test.YteoihdkaoipocaaDoorQb
import Derived.Stop.LaidErr
import Derived.Lib.LaidTab
import Derived.Test.YteoihdkaoipocaaDoorQe
/- What every row of this seat uses: the world's shape beside the laid variables; the variable MaxLen holds a number. -/
namespace Go.Proofs.YteoihdkaoipocaaDoor
open Go.ChangeShapes Go.WideShapes Go.ChangeAt Go.RowKit

theorem own : ownKnob Tryd.prog.godebug = none := by kernel_rfl
theorem mx_shaped {W : World} (h : W.ShapedOpen Tryd.prog) : Mx W :=
  cell_of_shapedOpen_int (g := 0) (t := 3) (zero := #[.int .i64 0]) h (of_decide_eq_true (by kernel_rfl)) (by kernel_rfl) rfl (by kernel_rfl) (by kernel_rfl) Tryd.underlying3
variable {H : Type} {enc : TypeId × Value → H}
theorem returns_laid {a : Assume} {C : Checked} {os : Os} {f : FuncId} {fn : Func} {s : ChangeSpec} {conds : List PathCond} {apart fresh handsOn again : Bool} {X : World → Array Value → Prop}
    (hX : ∀ (w w' : World) (args : Array Value), w.heap = w'.heap → X w args → X w' args)
    (own : ownKnob C.prog.godebug = none) (started : os.Started) (noInit : C.prog.inits.idxOf? f = none) (hfn : C.prog.funcs[f]? = some fn)
    (witness : ∃ (w : World) (tape : Tape) (i : Input), w.os = os ∧ (w.forCall tape i).Shaped C.prog ∧ i.vars = [] ∧ Input.okWide C.prog (w.forCall tape i) .any w.heap.size f i ∧
      ((s.pre enc C.prog fn conds apart (w.forCall tape i).memory i.args ∧ X (w.forCall tape i).memory i.args) ∧ sizedMet enc C.prog fn (OpenSpec.ofChange s) apart (w.forCall tape i).memory i.args) ∧ a.holds C.prog (lone (Frame.enter C.prog f i.args .normal) [] (w.forCall tape i)))
    (contract : ∀ (W : World) (base : Nat) (args : Array Value) (ds gs : List (DataW H)) (before : List MemPlace),
      (∀ (j : Nat) t v, fn.params[j]? = some t → args[j]? = some v → Value.okWide C.prog W .any base t v) →
      DataW.Whole enc C.prog fn.params.toList s.vars apart W args.toList ds gs before →
      (DataW.weightsEach C.prog (fn.params.toList ++ s.plain.varTypes C.prog) (ds ++ gs)).all (· ≤ reachBytes) = true → X W args → W.ShapedOpen C.prog →
      Calls C.prog f args W fun e W' => ∃ v, e = .returned v ∧ s.post enc C.prog fn apart fresh handsOn again W args v W') :
    ReturnsInHanded a C os f .any (fun w args => (s.pre enc C.prog fn conds apart w args ∧ X w args) ∧ sizedMet enc C.prog fn (OpenSpec.ofChange s) apart w args) (s.post enc C.prog fn apart fresh handsOn again) := by
  refine returnsInHanded_of_calls own started noInit witness ?_
  intro w tape i _ hsh _ hok hpre hholds
  obtain ⟨_, _, _, fn', hfn', _, _, _, _, hval⟩ := hok
  have e : fn' = fn := Option.some.inj (hfn'.symm.trans hfn)
  subst e
  obtain ⟨⟨⟨ds, gs, before, hw, hc⟩, hx⟩, hz⟩ := hpre
  have hw' := DataW.Whole.of_heap (w' := w.forCall tape i) (by rfl) hw
  refine (contract (w.forCall tape i) w.heap.size i.args ds gs before hval hw' (hz.weights hw) (hX _ _ _ (by rfl) hx) hsh).mono fun e W' ⟨v, he, hp⟩ => ?_
  subst he
  exact ChangeSpec.post_blind hp
theorem laidOut : laidOutB Tryd.prog = true := by kernel_rfl
theorem trodAll_below {W W' : World} (hb : Below W.heap.size W W') : ∀ (ts : List TypeId) (vs : List Value) (ds : List (DataW H)) (ps : List MemPlace),
    DataW.TrodAll enc Tryd.prog W 0 (fun _ => true) true ts vs ds ps → (∀ x ∈ ps, x.block < W.heap.size) → (∀ t ∈ ts, Tryd.prog.readableRec t = true ∧ t < Tryd.prog.types.size) →
    DataW.TrodAll enc Tryd.prog W' 0 (fun b => decide (b < W.heap.size)) true ts vs ds ps
  | [], [], [], _, h, _, _ => h
  | [], _ :: _, _, _, h, _, _ => h.elim
  | [], [], _ :: _, _, h, _, _ => h.elim
  | _ :: _, [], _, _, h, _, _ => h.elim
  | _ :: _, _ :: _, [], _, h, _, _ => h.elim
  | t :: ts, v :: vs, d :: ds, ps, h, hlt, hr => by
    obtain ⟨p, q, h1, h2, rfl⟩ := h
    obtain ⟨r1, r2⟩ := hr t (by simp)
    exact ⟨p, q, Below.trod laidOut r1 r2 h1 hb (fun x hx => hlt x (by simp [hx])), trodAll_below hb ts vs ds q h2 (fun x hx => hlt x (by simp [hx])) (fun u hu => hr u (by simp [hu])), rfl⟩

theorem post_of_below {f : Func} {s : ChangeSpec} {apart fresh handsOn : Bool} {W W' : World} {args : Array Value} {v : Value} {ds gs : List (DataW H)} {before : List MemPlace}
    (hW : DataW.Whole enc Tryd.prog f.params.toList s.vars apart W args.toList ds gs before) (hs : s.vars = []) 
    (hres : ∀ (b : Nat) (sp : Nat → Bool) (hd : Bool), DataW.TrodAll enc Tryd.prog W' b sp hd f.resultTypes.toList (v.resultList f.resultTypes.size) (s.fn H (ds ++ gs)).results [])
    (hargs : (s.fn H (ds ++ gs)).args = ds) (hv : (s.fn H (ds ++ gs)).vars = []) (hb : Below W.heap.size W W')
    (hr : ∀ t ∈ f.params.toList, Tryd.prog.readableRec t = true ∧ t < Tryd.prog.types.size) :
    s.post enc Tryd.prog f apart fresh handsOn false W args v W' := by
  have hlt := hW.lt
  have hW' := hW
  obtain ⟨p, q, hA, hV, rfl, hfz, hnd⟩ := hW
  rw [hs] at hV
  obtain ⟨rfl, rfl⟩ := trodVars_none hV
  refine ⟨ds, [], p ++ [], [], p, [], hW', hres _ _ _, ?_, ?_, hb.frame _, fun h => by simp at h⟩
  · rw [hargs]
    exact trodAll_below hb _ _ _ _ hA (fun x hx => by simpa using hlt x (by simp [hx])) hr
  · rw [hv, hs]
    rfl
end Go.Proofs.YteoihdkaoipocaaDoor

/- From a row's condition to the library's table of powers of ten. -/
namespace Go.Proofs.YteoihdkaoipocaaDoor
open Go.RowKit

theorem pow_eq : (Rows.laid_internal_strconv_uint64pow10 : DataW Unit) = Lib.tabData .u64 Lib.pow10Tab := by kernel_rfl
theorem tb_of_laid {W : World} {a b : String × DataW Unit} {r : List (String × DataW Unit)} (hp : ∀ w, laidMetH Tryd.prog (a :: b :: ("internal/strconv.uint64pow10", Rows.laid_internal_strconv_uint64pow10) :: r) w = laidMet Tryd.prog (a :: b :: ("internal/strconv.uint64pow10", Rows.laid_internal_strconv_uint64pow10) :: r) w)
    (h : laidMetH Tryd.prog (a :: b :: ("internal/strconv.uint64pow10", Rows.laid_internal_strconv_uint64pow10) :: r) W) : Tb W := by
  rw [hp] at h
  have h2 := h.tail.tail
  rw [pow_eq] at h2
  exact Lib.tabBelow_of_tabIs (Lib.tabIs_of_head (g := 1) (t := 201) (e := 153) (n := 20) (by kernel_rfl) (by kernel_rfl) (by kernel_rfl) (by kernel_rfl) (by kernel_rfl) (by kernel_rfl) h2)
end Go.Proofs.YteoihdkaoipocaaDoor

/- corveelaw08.SpecParses, SpecStops: what a text asks for; where it is refused. -/
namespace Go.Proofs.YteoihdkaoipocaaDoor
open Go.RowKit Go.Maps Go.Shelf Go.Sort

set_option maxRecDepth 100000 in
set_option maxHeartbeats 3200000 in
theorem sparses_any (t : ByteArray) (w : World) (hm : Mx w) (ht : Tb w) (hs : t.size ≤ maxLen) : Calls Tryd.prog 4 #[.string t] w fun e w' => e = .returned (.bool true) ∧ Below w.heap.size w w' := by
  have hc1 := awake8 w hm ht
  by_cases hbig : 6000 < t.size
  · have d : decide ((6000 : Int) < t.size) = true := decide_eq_true (by omega)
    have d' : decide (6000 < t.size) = true := decide_eq_true hbig
    replace hc1 := Lib.hid hc1; replace hm := Lib.hid hm; replace ht := Lib.hid ht; replace hs := Lib.hid hs; replace hbig := Lib.hid hbig
    go_enter Tryd.func4, Tryd.ntmps4
    go_wp2_with fail
    refine hc1.out.mono ?_
    rintro e w1 ⟨rfl, hb1⟩
    replace hb1 := Lib.hid hb1
    go_wp2
    go_ret
    exact ⟨rfl, hb1.out⟩
  have d : decide ((6000 : Int) < t.size) = false := decide_eq_false (by omega)
  have d' : decide (6000 < t.size) = false := decide_eq_false hbig
  replace hc1 := Lib.hid hc1; replace hm := Lib.hid hm; replace ht := Lib.hid ht; replace hs := Lib.hid hs
  go_enter Tryd.func4, Tryd.ntmps4
  go_wp2_with fail
  refine hc1.out.mono ?_
  rintro e w1 ⟨rfl, hb1⟩
  have hc2 := parse_any t w1 (hm.out.low hb1)
  unfold ParsePost at hc2
  have hc3 := rparse_any t
  unfold ParsePost at hc3
  obtain ⟨S, hS⟩ : ∃ S, S = (parseOf t).1 := ⟨_, rfl⟩
  obtain ⟨E, hE⟩ : ∃ E, E = (parseOf t).2.1 := ⟨_, rfl⟩
  obtain ⟨N, hN⟩ : ∃ N, N = (parseOf t).2.2 := ⟨_, rfl⟩
  rw [← hS, ← hE, ← hN] at hc2
  simp only [← hS, ← hE, ← hN] at hc3
  replace hb1 := Lib.hid hb1; replace hc2 := Lib.hid hc2; replace hc3 := Lib.hid hc3; replace hS := Lib.hid hS; replace hE := Lib.hid hE; replace hN := Lib.hid hN
  go_wp2_with fail
  refine hc2.out.mono ?_
  rintro e w2 ⟨x, rfl, hxo, hxp, hb2, hfr2⟩
  clear hfr2
  obtain ⟨⟨user, part, nodes, ⟨da, db, dc, dd⟩, wall, prio, array, retries, held, after⟩, so, n, cp⟩ := x
  obtain ⟨W3, hW3⟩ : ∃ W3, W3 = w2.alloc (.cells (⟨⟨user, part, nodes, ⟨da, db, dc, dd⟩, wall, prio, array, retries, held, after⟩, so, n, cp⟩ : Spv).cells 28 (0, 0)) := ⟨_, rfl⟩
  have hb3 : Below w2.heap.size w2 W3 := by rw [hW3]; exact (Below.refl _ _).alloc (Nat.le_refl _) _
  have hx3 : W3.heap[w2.heap.size]? = some (.cells (⟨⟨user, part, nodes, ⟨da, db, dc, dd⟩, wall, prio, array, retries, held, after⟩, so, n, cp⟩ : Spv).cells 28 (0, 0)) := by rw [hW3]; exact blk_new _ _
  have hc4 := hc3.out W3
  rw [hW3] at hc4
  have hW3' := Lib.hid hW3
  clear hW3
  replace hxo := Lib.hid hxo; replace hxp := Lib.hid hxp; replace hb2 := Lib.hid hb2; replace hb3 := Lib.hid hb3; replace hx3 := Lib.hid hx3; replace hc4 := Lib.hid hc4
  go_wp2_with fail
  refine hc4.out.mono ?_
  rw [← hW3'.out]
  rintro e w4 ⟨y, rfl, hyo, hyp, hb4, hfr4⟩
  clear hfr4
  obtain ⟨⟨user', part', nodes', ⟨da', db', dc', dd'⟩, wall', prio', array', retries', held', after'⟩, so', n', cp'⟩ := y
  obtain ⟨W5, hW5⟩ : ∃ W5, W5 = w4.alloc (.cells (⟨⟨user', part', nodes', ⟨da', db', dc', dd'⟩, wall', prio', array', retries', held', after'⟩, so', n', cp'⟩ : Spv).cells 28 (0, 0)) := ⟨_, rfl⟩
  have hb5 : Below w4.heap.size w4 W5 := by rw [hW5]; exact (Below.refl _ _).alloc (Nat.le_refl _) _
  have hb45 := hb4.trans (hb5.mono hb4.size)
  have hx5 := blk_below hb45 hx3.out (blk_lt hx3.out)
  have hlow5 : Below w.heap.size w W5 := hb1.out.trans ((hb2.out.trans ((hb3.out.trans (hb45.mono hb3.out.size)).mono hb2.out.size)).mono hb1.out.size)
  have hct := same_any8 ⟨⟨user, part, nodes, ⟨da, db, dc, dd⟩, wall, prio, array, retries, held, after⟩, so, n, cp⟩ ⟨⟨user', part', nodes', ⟨da', db', dc', dd'⟩, wall', prio', array', retries', held', after'⟩, so', n', cp'⟩ W5 ((hxo.out.low hb3.out).low hb45) (hyo.low hb5)
  unfold SamePost at hct
  rw [show (⟨⟨user, part, nodes, ⟨da, db, dc, dd⟩, wall, prio, array, retries, held, after⟩, so, n, cp⟩ : Spv).pl = S from hxp.out, show (⟨⟨user', part', nodes', ⟨da', db', dc', dd'⟩, wall', prio', array', retries', held', after'⟩, so', n', cp'⟩ : Spv).pl = S from hyp, decide_eq_true (rfl : S = S)] at hct
  have y0 : W5.cell? ⟨w2.heap.size, 0, none⟩ = some (.string user) := blk_cell hx5 0
  have y1 : W5.cell? ⟨w2.heap.size, 1, none⟩ = some (.string part) := blk_cell hx5 1
  have y2 : W5.cell? ⟨w2.heap.size, 2, none⟩ = some (.int .i64 nodes) := blk_cell hx5 2
  have y3 : W5.cell? ⟨w2.heap.size, 3, none⟩ = some (.int .i64 da) := blk_cell hx5 3
  have y4 : W5.cell? ⟨w2.heap.size, 4, none⟩ = some (.int .i64 db) := blk_cell hx5 4
  have y5 : W5.cell? ⟨w2.heap.size, 5, none⟩ = some (.int .i64 dc) := blk_cell hx5 5
  have y6 : W5.cell? ⟨w2.heap.size, 6, none⟩ = some (.int .i64 dd) := blk_cell hx5 6
  have y7 : W5.cell? ⟨w2.heap.size, 7, none⟩ = some (.int .i64 wall) := blk_cell hx5 7
  have y8 : W5.cell? ⟨w2.heap.size, 8, none⟩ = some (.int .i64 prio) := blk_cell hx5 8
  have y9 : W5.cell? ⟨w2.heap.size, 9, none⟩ = some (.int .i64 array) := blk_cell hx5 9
  have y10 : W5.cell? ⟨w2.heap.size, 10, none⟩ = some (.int .i64 retries) := blk_cell hx5 10
  have y11 : W5.cell? ⟨w2.heap.size, 11, none⟩ = some (.bool held) := blk_cell hx5 11
  have y12 : W5.cell? ⟨w2.heap.size, 12, none⟩ = some (.slice so n cp) := blk_cell hx5 12
  rw [hW5] at hct y0 y1 y2 y3 y4 y5 y6 y7 y8 y9 y10 y11 y12
  have hW5' := Lib.hid hW5
  clear hW5
  have dE : (E == E) = true := by simp
  have dN : (N == N) = true := by simp
  replace hyo := Lib.hid hyo; replace hyp := Lib.hid hyp; replace hb4 := Lib.hid hb4; replace hb5 := Lib.hid hb5; replace hb45 := Lib.hid hb45; replace hx5 := Lib.hid hx5; replace hlow5 := Lib.hid hlow5; replace hct := Lib.hid hct
  go_wp2_with fail
  refine hct.out.mono ?_
  rw [← hW5'.out]
  rintro e w6 ⟨rfl, hb6⟩
  have hlow6 := hlow5.out.trans (hb6.mono hlow5.out.size)
  clear y0 y1 y2 y3 y4 y5 y6 y7 y8 y9 y10 y11 y12
  replace hb6 := Lib.hid hb6; replace hlow6 := Lib.hid hlow6
  go_wp2
  go_ret
  exact ⟨rfl, hlow6.out⟩
set_option maxRecDepth 100000 in
set_option maxHeartbeats 3200000 in
theorem sstops_any (t : ByteArray) (w : World) (hm : Mx w) (ht : Tb w) (hs : t.size ≤ maxLen) : Calls Tryd.prog 7 #[.string t] w fun e w' => e = .returned (.bool true) ∧ Below w.heap.size w w' := by
  have hc1 := awake8 w hm ht
  have hmx : t.size ≤ 9223372036854775807 := hs
  replace hc1 := Lib.hid hc1; replace hm := Lib.hid hm; replace ht := Lib.hid ht; replace hs := Lib.hid hs
  go_enter Tryd.func7, Tryd.ntmps7
  go_wp2_with fail
  refine hc1.out.mono ?_
  rintro e w1 ⟨rfl, hb1⟩
  have hc2 := parse_any t w1 (hm.out.low hb1)
  unfold ParsePost at hc2
  have hgood := @parseOf_may t
  have hbad := @parseOf_bad t
  obtain ⟨S, hS⟩ : ∃ S, S = (parseOf t).1 := ⟨_, rfl⟩
  obtain ⟨E, hE⟩ : ∃ E, E = (parseOf t).2.1 := ⟨_, rfl⟩
  obtain ⟨N, hN⟩ : ∃ N, N = (parseOf t).2.2 := ⟨_, rfl⟩
  have hpr : (parseOf t).2 = (E, N) := by rw [hE, hN]
  rw [← hS, ← hE, ← hN] at hc2 hgood
  rw [hpr, ← hS] at hbad
  replace hb1 := Lib.hid hb1; replace hc2 := Lib.hid hc2; replace hS := Lib.hid hS; replace hE := Lib.hid hE; replace hN := Lib.hid hN; replace hgood := Lib.hid hgood; replace hbad := Lib.hid hbad; replace hpr := Lib.hid hpr
  go_wp2_with fail
  refine hc2.out.mono ?_
  rintro e w2 ⟨x, rfl, hxo, hxp, hb2, hfr2⟩
  clear hfr2
  have hpe : errS x.pl = errS S := by rw [hxp]
  obtain ⟨⟨user, part, nodes, ⟨da, db, dc, dd⟩, wall, prio, array, retries, held, after⟩, so, n, cp⟩ := x
  obtain ⟨W3, hW3⟩ : ∃ W3, W3 = w2.alloc (.cells (⟨⟨user, part, nodes, ⟨da, db, dc, dd⟩, wall, prio, array, retries, held, after⟩, so, n, cp⟩ : Spv).cells 28 (0, 0)) := ⟨_, rfl⟩
  have hb3 : Below w2.heap.size w2 W3 := by rw [hW3]; exact (Below.refl _ _).alloc (Nat.le_refl _) _
  have hx3 : W3.heap[w2.heap.size]? = some (.cells (⟨⟨user, part, nodes, ⟨da, db, dc, dd⟩, wall, prio, array, retries, held, after⟩, so, n, cp⟩ : Spv).cells 28 (0, 0)) := by rw [hW3]; exact blk_new _ _
  have hlow3 : Below w.heap.size w W3 := hb1.out.trans ((hb2.trans (hb3.mono hb2.size)).mono hb1.out.size)
  by_cases hE0 : E = 0
  · obtain ⟨g1, g2⟩ := hgood.out hE0
    have hck := check_any ⟨⟨user, part, nodes, ⟨da, db, dc, dd⟩, wall, prio, array, retries, held, after⟩, so, n, cp⟩ W3 (hxo.low hb3)
    rw [hpe, show errS S = 0 from if_pos g1] at hck
    have y0 : W3.cell? ⟨w2.heap.size, 0, none⟩ = some (.string user) := blk_cell hx3 0
    have y1 : W3.cell? ⟨w2.heap.size, 1, none⟩ = some (.string part) := blk_cell hx3 1
    have y2 : W3.cell? ⟨w2.heap.size, 2, none⟩ = some (.int .i64 nodes) := blk_cell hx3 2
    have y3 : W3.cell? ⟨w2.heap.size, 3, none⟩ = some (.int .i64 da) := blk_cell hx3 3
    have y4 : W3.cell? ⟨w2.heap.size, 4, none⟩ = some (.int .i64 db) := blk_cell hx3 4
    have y5 : W3.cell? ⟨w2.heap.size, 5, none⟩ = some (.int .i64 dc) := blk_cell hx3 5
    have y6 : W3.cell? ⟨w2.heap.size, 6, none⟩ = some (.int .i64 dd) := blk_cell hx3 6
    have y7 : W3.cell? ⟨w2.heap.size, 7, none⟩ = some (.int .i64 wall) := blk_cell hx3 7
    have y8 : W3.cell? ⟨w2.heap.size, 8, none⟩ = some (.int .i64 prio) := blk_cell hx3 8
    have y9 : W3.cell? ⟨w2.heap.size, 9, none⟩ = some (.int .i64 array) := blk_cell hx3 9
    have y10 : W3.cell? ⟨w2.heap.size, 10, none⟩ = some (.int .i64 retries) := blk_cell hx3 10
    have y11 : W3.cell? ⟨w2.heap.size, 11, none⟩ = some (.bool held) := blk_cell hx3 11
    have y12 : W3.cell? ⟨w2.heap.size, 12, none⟩ = some (.slice so n cp) := blk_cell hx3 12
    rw [hW3] at hck y0 y1 y2 y3 y4 y5 y6 y7 y8 y9 y10 y11 y12
    have hW3' := Lib.hid hW3
    clear hW3
    have dE : (E == 0) = true := by simp [hE0]
    have dN : (N == 0) = true := by simp [g2]
    replace hxo := Lib.hid hxo; replace hxp := Lib.hid hxp; replace hpe := Lib.hid hpe; replace hb2 := Lib.hid hb2; replace hb3 := Lib.hid hb3; replace hx3 := Lib.hid hx3; replace hlow3 := Lib.hid hlow3; replace hE0 := Lib.hid hE0; replace g1 := Lib.hid g1; replace g2 := Lib.hid g2; replace hck := Lib.hid hck
    go_wp2_with fail
    refine hck.out.mono ?_
    rw [← hW3'.out]
    rintro e w4 ⟨rfl, hb4⟩
    have hlow4 := hlow3.out.trans (hb4.mono hlow3.out.size)
    clear y0 y1 y2 y3 y4 y5 y6 y7 y8 y9 y10 y11 y12
    replace hb4 := Lib.hid hb4; replace hlow4 := Lib.hid hlow4
    go_wp2
    go_ret
    exact ⟨rfl, hlow4.out⟩
  have dE : (E == 0) = false := by simp [hE0]
  obtain ⟨hSz, hcase⟩ := hbad.out hE0
  rcases hcase with ⟨hl, he⟩ | ⟨hl, he, hn1, hn2⟩
  · have he1 : E = 2 := congrArg Prod.fst he
    have he2 : N = 0 := congrArg Prod.snd he
    have d : decide ((4096 : Int) < t.size) = true := decide_eq_true (by omega)
    have d' : decide (4096 < t.size) = true := decide_eq_true hl
    have dE2 : (E == 2) = true := by simp [he1]
    have dN : (N == 0) = true := by simp [he2]
    rw [hW3] at hlow3
    clear hx3 hb3
    have hW3' := Lib.hid hW3
    clear hW3
    replace hxo := Lib.hid hxo; replace hxp := Lib.hid hxp; replace hpe := Lib.hid hpe; replace hb2 := Lib.hid hb2; replace hlow3 := Lib.hid hlow3; replace hE0 := Lib.hid hE0; replace hSz := Lib.hid hSz; replace hl := Lib.hid hl; replace he := Lib.hid he; replace he1 := Lib.hid he1; replace he2 := Lib.hid he2
    go_wp2
    go_ret
    exact ⟨rfl, hlow3.out⟩
  · have d : decide ((4096 : Int) < t.size) = false := decide_eq_false (by omega)
    have d' : decide (4096 < t.size) = false := decide_eq_false hl
    have dE2 : (E == 80) = true := by simp [show E = 80 from he]
    have dN1 : decide (1 ≤ N) = true := decide_eq_true hn1
    have hmx2 : t.size ≤ 4096 := by omega
    have hcr := rcut_any t 32 W3 (by omega)
    obtain ⟨L, hL⟩ : ∃ L, L = (words t).length := ⟨_, rfl⟩
    have hL' : ((cutAll 32 t.data.toList).map ofL).length = L := by rw [hL]; rfl
    have hLm := words_many t
    rw [← hL] at hn2 hLm
    have dN2 : decide (N ≤ (L : Int) + 1) = true := decide_eq_true hn2
    rw [hW3] at hcr
    have hW3' := Lib.hid hW3
    clear hW3
    replace hxo := Lib.hid hxo; replace hxp := Lib.hid hxp; replace hpe := Lib.hid hpe; replace hb2 := Lib.hid hb2; replace hb3 := Lib.hid hb3; replace hx3 := Lib.hid hx3; replace hlow3 := Lib.hid hlow3; replace hE0 := Lib.hid hE0; replace hSz := Lib.hid hSz; replace hl := Lib.hid hl; replace he := Lib.hid he; replace hn1 := Lib.hid hn1; replace hn2 := Lib.hid hn2; replace hcr := Lib.hid hcr; replace hL := Lib.hid hL; replace hL' := Lib.hid hL'
    go_wp2_with fail
    refine hcr.out.mono ?_
    rw [← hW3'.out]
    rintro e w4 ⟨so2, n2, c2, rfl, hnc2, hrow2, hz9, hb4⟩
    have hnL : n2 = L := by rw [← hrow2.len]; exact hL'.out
    subst hnL
    have hx4 := blk_below hb4 hx3.out (blk_lt hx3.out)
    have hlow4 := hlow3.out.trans (hb4.mono hlow3.out.size)
    have hck := check_any ⟨⟨user, part, nodes, ⟨da, db, dc, dd⟩, wall, prio, array, retries, held, after⟩, so, n, cp⟩ w4 ((hxo.out.low hb3.out).low hb4)
    have hez : errS S = 80 := by rw [hSz.out]; exact if_neg (by rw [may_zero]; decide)
    rw [hpe.out, hez] at hck
    have y0 : w4.cell? ⟨w2.heap.size, 0, none⟩ = some (.string user) := blk_cell hx4 0
    have y1 : w4.cell? ⟨w2.heap.size, 1, none⟩ = some (.string part) := blk_cell hx4 1
    have y2 : w4.cell? ⟨w2.heap.size, 2, none⟩ = some (.int .i64 nodes) := blk_cell hx4 2
    have y3 : w4.cell? ⟨w2.heap.size, 3, none⟩ = some (.int .i64 da) := blk_cell hx4 3
    have y4 : w4.cell? ⟨w2.heap.size, 4, none⟩ = some (.int .i64 db) := blk_cell hx4 4
    have y5 : w4.cell? ⟨w2.heap.size, 5, none⟩ = some (.int .i64 dc) := blk_cell hx4 5
    have y6 : w4.cell? ⟨w2.heap.size, 6, none⟩ = some (.int .i64 dd) := blk_cell hx4 6
    have y7 : w4.cell? ⟨w2.heap.size, 7, none⟩ = some (.int .i64 wall) := blk_cell hx4 7
    have y8 : w4.cell? ⟨w2.heap.size, 8, none⟩ = some (.int .i64 prio) := blk_cell hx4 8
    have y9 : w4.cell? ⟨w2.heap.size, 9, none⟩ = some (.int .i64 array) := blk_cell hx4 9
    have y10 : w4.cell? ⟨w2.heap.size, 10, none⟩ = some (.int .i64 retries) := blk_cell hx4 10
    have y11 : w4.cell? ⟨w2.heap.size, 11, none⟩ = some (.bool held) := blk_cell hx4 11
    have y12 : w4.cell? ⟨w2.heap.size, 12, none⟩ = some (.slice so n cp) := blk_cell hx4 12
    replace hnc2 := Lib.hid hnc2; replace hrow2 := Lib.hid hrow2; replace hz9 := Lib.hid hz9; replace hb4 := Lib.hid hb4; replace hx4 := Lib.hid hx4; replace hlow4 := Lib.hid hlow4; replace hck := Lib.hid hck; replace hez := Lib.hid hez
    go_wp2_with fail
    refine hck.out.mono ?_
    rintro e w5 ⟨rfl, hb5⟩
    have hlow5 := hlow4.out.trans (hb5.mono hlow4.out.size)
    clear y0 y1 y2 y3 y4 y5 y6 y7 y8 y9 y10 y11 y12
    replace hb5 := Lib.hid hb5; replace hlow5 := Lib.hid hlow5
    go_wp2
    go_ret
    exact ⟨rfl, hlow5.out⟩
end Go.Proofs.YteoihdkaoipocaaDoor

namespace Go.Proofs.YteoihdkaoipocaaDoor
open Go.ChangeShapes Go.WideShapes Go.ChangeAt Go.RowKit Go.ChangeMaps

set_option maxRecDepth 100000 in
theorem specParses_lifted (os : Os) (started : os.Started) (H : Type) (enc : TypeId × Value → H) :
    ReturnsInHanded {} Tryd.checked os 4 .any (fun w args => (Rows.specParsesSpec.pre enc Tryd.prog Tryd.f4 Rows.specParsesRow.domain false w args ∧ laidMetH Tryd.prog Rows.specParsesRow.laid w) ∧ sizedMet enc Tryd.prog Tryd.f4 (OpenSpec.ofChange Rows.specParsesSpec) false w args)
      (Rows.specParsesSpec.post enc Tryd.prog Tryd.f4 false true false false) := by
  refine returns_laid (C := Tryd.checked) (X := fun w _ => laidMetH Tryd.prog Rows.specParsesRow.laid w) (fun _ _ _ hh h => h.of_heap hh) own started (by kernel_rfl) Tryd.func4
    (ChangeSpec.witness_shaped (enc := enc) (C := Tryd.checked) (os := os) (X := fun w _ => laidMetH Tryd.prog Rows.specParsesRow.laid w) false (World.laidAll Tryd.prog os Rows.specParsesRow.laid) #[.string ByteArray.empty] 8 (World.laidAll_os _ _ _)
      (World.shaped_of_ZipB (by kernel_rfl) (by kernel_rfl)) (by kernel_rfl) (by kernel_rfl) (by kernel_rfl)
      (by rw [MakeChecks.laidMetH_plain _ _ _ (by kernel_rfl)]; exact laidMet_laidAll _ (by kernel_rfl) (by kernel_rfl))) ?_
  intro W base args ds gs before hval0 hW hc hL hsh
  have hval : ∀ (j : Nat) t v, Tryd.f4.params[j]? = some t → args[j]? = some v → Value.okWide Tryd.prog W .any base t v := hval0
  have hW' := hW
  obtain ⟨p, q, hA0, hV, rfl, _, _⟩ := hW
  have hA : DataW.TrodAll enc Tryd.prog W 0 (fun _ => true) true Tryd.f4.params.toList args.toList ds p := hA0
  rw [Tryd.params4] at hA hval
  obtain ⟨v0, d0, rfl, rfl, h0⟩ := trodAll_one hA
  obtain ⟨rfl, rfl⟩ := trodVars_none hV
  obtain ⟨s0, rfl, rfl, rfl, hs0⟩ := open_string Tryd.underlying9 (hval 0 9 v0 rfl rfl) h0
  clear hA0 hval0
  refine (sparses_any s0 W (mx_shaped hsh) (tb_of_laid (fun w => MakeChecks.laidMetH_plain _ _ w (by kernel_rfl)) hL) hs0).mono fun e W' ⟨he, hw⟩ => ?_
  subst he
  refine ⟨_, rfl, post_of_below hW' rfl (fun _ _ _ => ?_) rfl rfl hw ?_⟩
  · have hrt : Tryd.f4.resultTypes = #[4] := by kernel_rfl
    rw [hrt]
    exact trodAll_mk1 ⟨1, by simp [DataW.trod, Value.cells, Tryd.underlying4]⟩
  · rw [Tryd.params4]
    intro t ht
    have hm : t ∈ [9] := by simpa using ht
    have hall : ([9].all fun u => Tryd.prog.readableRec u && decide (u < Tryd.prog.types.size)) = true := by kernel_rfl
    have := List.all_eq_true.1 hall t hm
    rw [Bool.and_eq_true] at this
    exact ⟨this.1, of_decide_eq_true this.2⟩
theorem specParses_row : Rows.SpecParsesSaid :=
  OpenClaim.holds_of_wide 4 Tryd.f4 rfl rfl rfl rfl rfl rfl rfl ⟨rfl, rfl, rfl, rfl, rfl⟩ rfl rfl rfl rfl rfl (by kernel_rfl) Tryd.func4 (by kernel_rfl)
    (of_decide_eq_true (by kernel_rfl)) (by unfold Func.isWrapper; first | (rw [if_pos (by decide +kernel)]; kernel_rfl) | (rw [if_neg (by decide +kernel)]; exact ⟨rfl, rfl⟩))
    (fun os started H enc _ => specParses_lifted os started H enc)
theorem specParses_holds : Rows.SpecParsesCardSaid :=
  Claim7.holds_tied_plain_at .later [] [.data, .data, .data, .data, .pinned] true (true, "d7ca3db8da485ca0b11e68421f68137e81c97920c528271bb1d28dc3225d4cd7") false specParses_row (fun _ h => by cases h) (by kernel_rfl) (fun _ h => by cases h) specParses_row_tie rfl ⟨rfl, rfl⟩ (by kernel_rfl) rfl
    (fun f fn hf hfn => by
      obtain rfl : f = 4 := Option.some.inj ((show Tryd.prog.funcNamed "corvee/corveelaw08.SpecParses" = some 4 by kernel_rfl).symm.trans hf) |>.symm
      obtain rfl : fn = Tryd.f4 := (Option.some.inj (Tryd.func4.symm.trans hfn)).symm
      exact ⟨by kernel_rfl, fun j t ht => by
        rw [Tryd.params4] at ht
        have hm : t ∈ [9] := by simpa using Array.mem_of_getElem? ht
        have hall : ([9].all fun u => !Tryd.prog.wantsStandIn u) = true := by kernel_rfl
        exact (show Tryd.prog.wantsStandIn t = false by simpa using List.all_eq_true.1 hall t hm)⟩)
    (by kernel_rfl)
end Go.Proofs.YteoihdkaoipocaaDoor
