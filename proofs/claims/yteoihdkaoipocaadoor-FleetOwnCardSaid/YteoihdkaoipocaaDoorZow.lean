/- What a fleet tells is new memory; one that is none has nothing: for every input the law returns true, and each argument reads behind the call as it read before. The listed variables are laid and tied. No further condition. -/
import Derived.Test.YteoihdkaoipocaaDoorQa
import Derived.Test.YteoihdkaoipocaaDoorRows
import Derived.Test.YteoihdkaoipocaaDoorTie
import Derived.Test.YteoihdkaoipocaaDoorCards
import Derived.ProofKit
import Derived.OpenShut
import Derived.LaidMore
import Derived.Lay
import Derived.SevenTiedAt
import Derived.Stop.Joined
import Derived.Shelf.Vars
import Derived.Test.YteoihdkaoipocaaDoorQb
import Derived.Stop.LaidErr
import Derived.Lib.LaidTab
import Derived.Test.YteoihdkaoipocaaDoorQc
/- What every row of this seat uses: the world's shape beside the laid variables; the variable MaxLen holds a number. -/
namespace Go.Proofs.YteoihdkaoipocaaDoor
open Go.ChangeShapes Go.WideShapes Go.ChangeAt Go.RowKit

theorem own : ownKnob Tryd.prog.godebug = none := by kernel_rfl
theorem mx_shaped {W : World} (h : W.ShapedOpen Tryd.prog) : Mx W :=
  cell_of_shapedOpen_int (g := 0) (t := 3) (zero := #[.int .i64 0]) h (of_decide_eq_true (by kernel_rfl)) (by kernel_rfl) rfl (by kernel_rfl) (by kernel_rfl) Tryd.underlying3
variable {H : Type} {enc : TypeId × Value → H}
theorem returns_laid {a : Assume} {C : Checked} {os : Os} {f : FuncId} {fn : Func} {s : ChangeSpec} {conds : List PathCond} {apart fresh handsOn again : Bool} {X : World → Array Value → Prop}
    (hX : ∀ (w w' : World) (args : Array Value), w.heap = w'.heap → X w args → X w' args)
    (own : ownKnob C.prog.godebug = none) (started : os.Started) (noInit : C.prog.inits.idxOf? f = none) (hfn : C.prog.funcs[f]? = some fn)
    (witness : ∃ (w : World) (tape : Tape) (i : Input), w.os = os ∧ (w.forCall tape i).Shaped C.prog ∧ i.vars = [] ∧ Input.okWide C.prog (w.forCall tape i) .any w.heap.size f i ∧
      ((s.pre enc C.prog fn conds apart (w.forCall tape i).memory i.args ∧ X (w.forCall tape i).memory i.args) ∧ sizedMet enc C.prog fn (OpenSpec.ofChange s) apart (w.forCall tape i).memory i.args) ∧ a.holds C.prog (lone (Frame.enter C.prog f i.args .normal) [] (w.forCall tape i)))
    (contract : ∀ (W : World) (base : Nat) (args : Array Value) (ds gs : List (DataW H)) (before : List MemPlace),
      (∀ (j : Nat) t v, fn.params[j]? = some t → args[j]? = some v → Value.okWide C.prog W .any base t v) →
      DataW.Whole enc C.prog fn.params.toList s.vars apart W args.toList ds gs before →
      (DataW.weightsEach C.prog (fn.params.toList ++ s.plain.varTypes C.prog) (ds ++ gs)).all (· ≤ reachBytes) = true → X W args → W.ShapedOpen C.prog →
      Calls C.prog f args W fun e W' => ∃ v, e = .returned v ∧ s.post enc C.prog fn apart fresh handsOn again W args v W') :
    ReturnsInHanded a C os f .any (fun w args => (s.pre enc C.prog fn conds apart w args ∧ X w args) ∧ sizedMet enc C.prog fn (OpenSpec.ofChange s) apart w args) (s.post enc C.prog fn apart fresh handsOn again) := by
  refine returnsInHanded_of_calls own started noInit witness ?_
  intro w tape i _ hsh _ hok hpre hholds
  obtain ⟨_, _, _, fn', hfn', _, _, _, _, hval⟩ := hok
  have e : fn' = fn := Option.some.inj (hfn'.symm.trans hfn)
  subst e
  obtain ⟨⟨⟨ds, gs, before, hw, hc⟩, hx⟩, hz⟩ := hpre
  have hw' := DataW.Whole.of_heap (w' := w.forCall tape i) (by rfl) hw
  refine (contract (w.forCall tape i) w.heap.size i.args ds gs before hval hw' (hz.weights hw) (hX _ _ _ (by rfl) hx) hsh).mono fun e W' ⟨v, he, hp⟩ => ?_
  subst he
  exact ChangeSpec.post_blind hp
theorem laidOut : laidOutB Tryd.prog = true := by kernel_rfl
theorem trodAll_below {W W' : World} (hb : Below W.heap.size W W') : ∀ (ts : List TypeId) (vs : List Value) (ds : List (DataW H)) (ps : List MemPlace),
    DataW.TrodAll enc Tryd.prog W 0 (fun _ => true) true ts vs ds ps → (∀ x ∈ ps, x.block < W.heap.size) → (∀ t ∈ ts, Tryd.prog.readableRec t = true ∧ t < Tryd.prog.types.size) →
    DataW.TrodAll enc Tryd.prog W' 0 (fun b => decide (b < W.heap.size)) true ts vs ds ps
  | [], [], [], _, h, _, _ => h
  | [], _ :: _, _, _, h, _, _ => h.elim
  | [], [], _ :: _, _, h, _, _ => h.elim
  | _ :: _, [], _, _, h, _, _ => h.elim
  | _ :: _, _ :: _, [], _, h, _, _ => h.elim
  | t :: ts, v :: vs, d :: ds, ps, h, hlt, hr => by
    obtain ⟨p, q, h1, h2, rfl⟩ := h
    obtain ⟨r1, r2⟩ := hr t (by simp)
    exact ⟨p, q, Below.trod laidOut r1 r2 h1 hb (fun x hx => hlt x (by simp [hx])), trodAll_below hb ts vs ds q h2 (fun x hx => hlt x (by simp [hx])) (fun u hu => hr u (by simp [hu])), rfl⟩

theorem post_of_below {f : Func} {s : ChangeSpec} {apart fresh handsOn : Bool} {W W' : World} {args : Array Value} {v : Value} {ds gs : List (DataW H)} {before : List MemPlace}
    (hW : DataW.Whole enc Tryd.prog f.params.toList s.vars apart W args.toList ds gs before) (hs : s.vars = []) 
    (hres : ∀ (b : Nat) (sp : Nat → Bool) (hd : Bool), DataW.TrodAll enc Tryd.prog W' b sp hd f.resultTypes.toList (v.resultList f.resultTypes.size) (s.fn H (ds ++ gs)).results [])
    (hargs : (s.fn H (ds ++ gs)).args = ds) (hv : (s.fn H (ds ++ gs)).vars = []) (hb : Below W.heap.size W W')
    (hr : ∀ t ∈ f.params.toList, Tryd.prog.readableRec t = true ∧ t < Tryd.prog.types.size) :
    s.post enc Tryd.prog f apart fresh handsOn false W args v W' := by
  have hlt := hW.lt
  have hW' := hW
  obtain ⟨p, q, hA, hV, rfl, hfz, hnd⟩ := hW
  rw [hs] at hV
  obtain ⟨rfl, rfl⟩ := trodVars_none hV
  refine ⟨ds, [], p ++ [], [], p, [], hW', hres _ _ _, ?_, ?_, hb.frame _, fun h => by simp at h⟩
  · rw [hargs]
    exact trodAll_below hb _ _ _ _ hA (fun x hx => by simpa using hlt x (by simp [hx])) hr
  · rw [hv, hs]
    rfl
end Go.Proofs.YteoihdkaoipocaaDoor

/- From a row's condition to the library's table of powers of ten. -/
namespace Go.Proofs.YteoihdkaoipocaaDoor
open Go.RowKit

theorem pow_eq : (Rows.laid_internal_strconv_uint64pow10 : DataW Unit) = Lib.tabData .u64 Lib.pow10Tab := by kernel_rfl
theorem tb_of_laid {W : World} {a b : String × DataW Unit} {r : List (String × DataW Unit)} (hp : ∀ w, laidMetH Tryd.prog (a :: b :: ("internal/strconv.uint64pow10", Rows.laid_internal_strconv_uint64pow10) :: r) w = laidMet Tryd.prog (a :: b :: ("internal/strconv.uint64pow10", Rows.laid_internal_strconv_uint64pow10) :: r) w)
    (h : laidMetH Tryd.prog (a :: b :: ("internal/strconv.uint64pow10", Rows.laid_internal_strconv_uint64pow10) :: r) W) : Tb W := by
  rw [hp] at h
  have h2 := h.tail.tail
  rw [pow_eq] at h2
  exact Lib.tabBelow_of_tabIs (Lib.tabIs_of_head (g := 1) (t := 201) (e := 153) (n := 20) (by kernel_rfl) (by kernel_rfl) (by kernel_rfl) (by kernel_rfl) (by kernel_rfl) (by kernel_rfl) h2)
end Go.Proofs.YteoihdkaoipocaaDoor

/- corveelaw05.awake: the document's examples of fleets. -/
namespace Go.Proofs.YteoihdkaoipocaaDoor
open Go.RowKit Go.Maps Go.Shelf

def aT1 : ByteArray := ⟨#[110, 49, 32, 52, 44, 56, 44, 48, 44, 48, 32, 109, 97, 105, 110, 32, 103, 112, 117, 10, 110, 50, 32, 52, 44, 56, 44, 48, 44, 48, 32, 109, 97, 105, 110, 10]⟩
def aT2 : ByteArray := ⟨#[35, 32, 120, 10, 110, 49, 32, 52, 44, 56, 44, 48, 44, 48]⟩
def aN1 : ByteArray := ⟨#[110, 49]⟩
def aN2 : ByteArray := ⟨#[110, 50]⟩
def aMain : ByteArray := ⟨#[109, 97, 105, 110]⟩
def aGpu : ByteArray := ⟨#[103, 112, 117]⟩
def aV1 : List Ndv := [⟨aN1, ⟨4, 8, 0, 0⟩, [aMain, aGpu]⟩, ⟨aN2, ⟨4, 8, 0, 0⟩, [aMain]⟩]
theorem aR1 : readOf aT1 = (aV1, 0, 0) := by kernel_rfl
theorem aR2 : (readOf aT2).2 = (50, 2) := by kernel_rfl
theorem aIn : inOf aV1 aMain = [0, 1] := by kernel_rfl
theorem aTot : totOf aV1 aMain = ⟨8, 16, 0, 0⟩ := by kernel_rfl
theorem aIdx : idxN (aV1.map Ndv.name) aN2 0 = 1 := by kernel_rfl
theorem aSort : ([[109, 97, 105, 110], [103, 112, 117], [109, 97, 105, 110]] : List (List UInt8)).mergeSort (fun x y => decide (x ≤ y)) = [[103, 112, 117], [109, 97, 105, 110], [109, 97, 105, 110]] := by
  simp [List.mergeSort, List.MergeSort.Internal.splitInTwo, List.merge]
  rw [if_neg (show ¬ ([109, 97, 105, 110] : List UInt8) ≤ [103, 112, 117] from by decide)]
  simp [List.merge]
  decide
theorem aParts : (partsOf aV1).map ofL = [aGpu, aMain] := by
  unfold partsOf
  rw [show (rawParts aV1).map (·.data.toList) = [[109, 97, 105, 110], [103, 112, 117], [109, 97, 105, 110]] from by kernel_rfl, aSort]
  kernel_rfl
theorem aEq (w : World) : (Op.equalIn 10000 25 (.agg #[.int .i64 8, .int .i64 16, .int .i64 0, .int .i64 0]) (.agg #[.int .i64 8, .int .i64 16, .int .i64 0, .int .i64 0])).run Tryd.prog w = .ok true w := by kernel_rfl
set_option maxRecDepth 100000 in
set_option maxHeartbeats 3200000 in
theorem awake5 (w : World) (hm : Mx w) : Calls Tryd.prog 18 #[] w fun e w' => e = .returned (.bool true) ∧ Below w.heap.size w w' := by
  have hc1 := read_any aT1 w hm
  replace hc1 := Lib.hid hc1
  go_enter Tryd.func18, Tryd.ntmps18
  go_wp2_with fail
  refine hc1.out.mono ?_
  rintro e w1 ⟨p, rfl, hb1, hcase⟩
  rw [aR1] at hcase ⊢
  obtain ⟨_, rfl, hF⟩ := hcase.resolve_left (fun h => h.1 rfl)
  have hc2 := read_any aT2 w1 (hm.low hb1)
  replace hb1 := Lib.hid hb1; replace hcase := Lib.hid hcase; replace hF := Lib.hid hF; replace hc2 := Lib.hid hc2
  go_wp2_with fail
  refine hc2.out.mono ?_
  rintro e w2 ⟨p, rfl, hb2, hcase2⟩
  have hF2 := hF.out.below hb2
  rw [show (readOf aT2).2.1 = 50 from by rw [aR2], show (readOf aT2).2.2 = 2 from by rw [aR2]]
  have hok : FltOk aV1 := by have := readOf_good aT1; rw [aR1] at this; exact this
  have hc3 := parts_flt hF2 hok
  replace hF2 := Lib.hid hF2; replace hb2 := Lib.hid hb2; replace hcase2 := Lib.hid hcase2; replace hok := Lib.hid hok; replace hc3 := Lib.hid hc3
  go_wp2_with fail
  refine hc3.out.mono ?_
  rintro e w3 ⟨v, rfl, hO, hb3⟩
  rw [aParts] at hO
  have hF3 := hF2.out.below hb3
  obtain ⟨g, cap, rfl⟩ := Joins.ownsRow_form hO.row (by decide)
  have hg0 := (World.ownsRow.lt hO.row g rfl).2
  have hg := hg0
  have q0 : w3.cell? ⟨g, 0, none⟩ = some (.string aGpu) := World.ownsRow.cellAt hO.row 0 (by decide)
  have hl3 := len_flt hF3
  replace hF3 := Lib.hid hF3; replace hb3 := Lib.hid hb3; replace hO := Lib.hid hO; replace hl3 := Lib.hid hl3; replace q0 := Lib.hid q0
  go_wp2_with fail
  refine hl3.out.mono ?_
  rintro e w4 ⟨rfl, rfl⟩
  rw [show ((aV1.length : Nat) : Int) = 2 from rfl]
  have hc4 := in_flt hF3.out hok.out aMain
  replace hc4 := Lib.hid hc4
  go_wp2_with fail
  refine hc4.out.mono ?_
  rintro e w5 ⟨v5, rfl, hO5, hb5⟩
  rw [aIn] at hO5
  obtain ⟨g5, cap5, rfl⟩ := Joins.ownsRow_form hO5.row (by decide)
  have hF5 := hF3.out.below hb5
  have hc5 := tot_flt hF5 hok.out aMain
  replace hF5 := Lib.hid hF5; replace hb5 := Lib.hid hb5; replace hO5 := Lib.hid hO5; replace hc5 := Lib.hid hc5
  go_wp2_with fail
  refine hc5.out.mono ?_
  rintro e w6 ⟨rfl, hb6⟩
  rw [show (totOf aV1 aMain).val = .agg #[.int .i64 8, .int .i64 16, .int .i64 0, .int .i64 0] from by rw [aTot]]
  have hEq := aEq
  have hF6 := hF5.out.below hb6
  have q6 : w6.cell? ⟨g, 0, none⟩ = some (.string { data := #[103, 112, 117] }) := by
    rw [below_cell hb6 (Nat.lt_of_lt_of_le hg hb5.out.size), below_cell hb5.out hg]; exact q0.out
  have hc6 := index_flt hF6 hok.out aN2 (by decide)
  replace hF6 := Lib.hid hF6; replace hb6 := Lib.hid hb6; replace hc6 := Lib.hid hc6
  go_wp2_with fail
  refine hc6.out.mono ?_
  rintro e w7 ⟨rfl, rfl⟩
  rw [aIdx]
  go_wp2
  go_ret
  exact ⟨rfl, hb1.out.trans ((hb2.out.trans ((hb3.out.trans ((hb5.out.trans (hb6.out.mono hb5.out.size)).mono hb3.out.size)).mono hb2.out.size)).mono hb1.out.size)⟩
end Go.Proofs.YteoihdkaoipocaaDoor

/- Node and Text of a fleet that is none. -/
namespace Go.Proofs.YteoihdkaoipocaaDoor
open Go.RowKit Go.Maps Go.Shelf

set_option maxRecDepth 100000 in
theorem node_nil (w : World) : Calls Tryd.prog 32 #[.pointer none, .int .i64 0] w fun e w' => e = .returned (.tuple #[Nde.zero.val, .bool false]) ∧ Below w.heap.size w w' := by
  have hlc := len_nil (w.alloc (.cells Nde.zero.cells 48 (0, 0)))
  replace hlc := Lib.hid hlc
  go_enter Tryd.func32, Tryd.ntmps32
  go_wp2_with fail
  refine hlc.out.mono ?_
  rintro e w1 ⟨rfl, rfl⟩
  go_wp2
  exact bodyPost_ret (v := .tuple #[Nde.zero.val, .bool false]) (by simp [results, Tryd.results32, go_sem, Nde.zero, V4.zero] <;> rfl) rfl ⟨rfl, (Below.refl _ _).alloc (Nat.le_refl _) _⟩
set_option maxRecDepth 100000 in
theorem ftext_nil (w : World) : Calls Tryd.prog 56 #[.pointer none] w fun e w' => e = .returned (.string ByteArray.empty) ∧ Below w.heap.size w w' := by
  have hW0 : FtW w [] (w.alloc (.cells #[.pointer none, .slice none 0 0] 134 (0, 0))) :=
    ⟨(Below.refl _ _).alloc (Nat.le_refl _) _, .inl ⟨Nat.le_refl _, _, blk_new _ _, ⟨rfl, .inl ⟨rfl, rfl⟩⟩, by simp [Value.ownBlock]⟩⟩
  have hlc := len_nil (w.alloc (.cells #[.pointer none, .slice none 0 0] 134 (0, 0)))
  replace hlc := Lib.hid hlc; replace hW0 := Lib.hid hW0
  go_enter Tryd.func56, Tryd.ntmps56
  go_wp2_with fail
  refine hlc.out.mono ?_
  rintro e w1 ⟨rfl, rfl⟩
  go_wp2
  go_loopw [4, 5, 8] (fun _ _ i wr => i = .int .i64 0 ∧ Hid (FtW w [] wr)) (fun _ _ i _ => 0)
  case atStart => exact ⟨rfl, hW0.out⟩
  case round =>
    obtain ⟨rfl, hM⟩ := hrel
    have hb := hM.out.b
    have hlow := hM.out.low
    have hcl := Tryd.Builder_String_any w.heap.size w.heap.size [] _ hb hlow.size
    replace hb := Lib.hid hb; replace hlow := Lib.hid hlow; replace hcl := Lib.hid hcl
    go_wp2_with fail
    refine hcl.out.mono ?_
    rintro e w2 ⟨rfl, hb2⟩
    replace hb2 := Lib.hid hb2
    go_wp2
    go_ret
    exact ⟨rfl, hlow.out.trans hb2.out⟩
end Go.Proofs.YteoihdkaoipocaaDoor

/- corveelaw05.FleetOwn: what a fleet tells is new memory; one that is none has nothing. -/
namespace Go.Proofs.YteoihdkaoipocaaDoor
open Go.RowKit Go.Maps Go.Shelf

theorem below_past {w w' : World} {o : Obj} (h : Below (w.alloc o).heap.size (w.alloc o) w') : Below w.heap.size w w' :=
  ((Below.refl _ _).alloc (Nat.le_refl _) _).trans (h.mono (by simp))
theorem oEq (w : World) : (Op.equalIn 10000 25 (.agg #[.int .i64 0, .int .i64 0, .int .i64 0, .int .i64 0]) (.agg #[.int .i64 0, .int .i64 0, .int .i64 0, .int .i64 0])).run Tryd.prog w = .ok true w := by kernel_rfl
theorem nodes_zero (w : World) : Calls Tryd.prog 33 #[.agg #[.string ByteArray.empty, .int .i64 0, .int .i64 0, .int .i64 0, .int .i64 0, .slice none 0 0], .agg #[.string ByteArray.empty, .int .i64 0, .int .i64 0, .int .i64 0, .int .i64 0, .slice none 0 0]] w fun e w' => e = .returned (.bool true) ∧ Below w.heap.size w w' := by
  refine (nodes_any Nde.zero Nde.zero w ⟨strs_none _, Nat.le_refl _⟩ ⟨strs_none _, Nat.le_refl _⟩).mono ?_
  rintro e w' ⟨rfl, h⟩
  exact ⟨by simp, h⟩
/-- a row of one's own, of any values -/
def RowW (B ty : Nat) (so : Option Addr) (m : Nat) (W : World) : Prop := m = 0 ∨ ∃ b o c, so = some ⟨b, o, none⟩ ∧ B ≤ b ∧ W.heap[b]? = some (.cells c ty (0, 0)) ∧ o + m ≤ c.size
theorem RowW.put {B ty : Nat} {so : Option Addr} {m : Nat} {W : World} (h : RowW B ty so m W) {r k ty' : Nat} {c : Array Value} (hr : W.heap[r]? = some (.cells c ty' (0, 0))) (u : Value) : RowW B ty so m (W.setCell ⟨r, k, none⟩ u) := by
  rcases h with h | ⟨b, o, d, e, hB, hh, hs⟩
  · exact .inl h
  · by_cases hbr : b = r
    · subst hbr
      exact .inr ⟨b, o, _, e, hB, blk_set hh _ _, by rw [Array.size_setIfInBounds]; exact hs⟩
    · exact .inr ⟨b, o, d, e, hB, blk_set_other hbr _ hh, hs⟩
theorem RowW.below {B ty : Nat} {so : Option Addr} {m : Nat} {W W' : World} (h : RowW B ty so m W) (hb : Below W.heap.size W W') : RowW B ty so m W' := by
  rcases h with h | ⟨b, o, d, e, hB, hh, hs⟩
  · exact .inl h
  · exact .inr ⟨b, o, d, e, hB, blk_below hb hh (blk_lt hh), hs⟩
theorem row_of_own {W : World} {B ty : Nat} {v : Value} {n : Nat} {xs : List Value} (h : W.ownsRow B ty 1 v n xs) : ∃ so c, v = .slice so n c ∧ RowW B ty so n W ∧ n ≤ 9223372036854775807 := by
  rcases h.2 with ⟨rfl, rfl⟩ | ⟨g, cap, cur, rfl, hg, hh, hn, hx, hs, _⟩
  · exact ⟨none, 0, rfl, .inl rfl, Nat.zero_le _⟩
  · exact ⟨_, _, rfl, .inr ⟨g, 0, cur, rfl, hg, hh, by omega⟩, Nat.le_trans (Nat.le_trans hn hx) (by decide)⟩
/-- the law's world while it writes over what a node told -/
structure OwW (w : World) (cs : Array Value) (xb : Nat) (so : Option Addr) (m : Nat) (po : Option Addr) (pn : Nat) (W : World) : Prop where
  low : Below w.heap.size w W
  box : W.heap[xb]? = some (.cells cs 48 (0, 0))
  ri : RowW w.heap.size 3 so m W
  rs : RowW w.heap.size 9 po pn W
theorem OwW.put {w : World} {cs : Array Value} {xb : Nat} {so : Option Addr} {m : Nat} {po : Option Addr} {pn : Nat} {W : World} (h : OwW w cs xb so m po pn W) {r k ty : Nat} {c : Array Value} (hr : W.heap[r]? = some (.cells c ty (0, 0))) (ht : ty ≠ 48) (hB : w.heap.size ≤ r) (u : Value) : OwW w cs xb so m po pn (W.setCell ⟨r, k, none⟩ u) :=
  ⟨h.low.setCell (p := ⟨r, k, none⟩) hB u, blk_set_other (fun e => by
    have := h.box
    rw [e, hr] at this
    cases this
    exact ht rfl) _ h.box, h.ri.put hr u, h.rs.put hr u⟩
set_option maxRecDepth 100000 in
set_option maxHeartbeats 3200000 in
theorem fown_any (s p : ByteArray) (w : World) (hm : Mx w) (ht : Tb w) : Calls Tryd.prog 17 #[.string s, .string p] w fun e w' => e = .returned (.bool true) ∧ Below w.heap.size w w' := by
  have hc1 := awake5 w hm
  replace hc1 := Lib.hid hc1
  go_enter Tryd.func17, Tryd.ntmps17
  go_wp2_with fail
  refine hc1.out.mono ?_
  rintro e w1 ⟨rfl, hb1⟩
  have hc2 := node_nil w1
  replace hb1 := Lib.hid hb1; replace hc2 := Lib.hid hc2; replace ht := Lib.hid ht
  go_wp2_with fail
  refine hc2.out.mono ?_
  rintro e w2 ⟨rfl, hb2⟩
  replace hb2 := Lib.hid hb2
  go_wp2_with fail
  refine (len_nil _).mono ?_
  rintro e w3 ⟨rfl, rfl⟩
  go_wp2_with fail
  refine (nodes_zero _).mono ?_
  rintro e w4 ⟨rfl, hb4⟩
  have hlow4 := hb2.out.trans ((below_past hb4).mono hb2.out.size)
  clear hb4
  replace hlow4 := Lib.hid hlow4
  go_wp2_with fail
  refine (index_nil _ _).mono ?_
  rintro e w5 ⟨rfl, rfl⟩
  go_wp2_with fail
  refine (fin_nil _ _).mono ?_
  rintro e w6 ⟨v6, rfl, hO6, hb6⟩
  obtain ⟨so6, c6, rfl⟩ : ∃ so c, v6 = .slice so 0 c := by
    rcases hO6.row.2 with ⟨h, _⟩ | ⟨g, cap, cur, h, _⟩
    · exact ⟨none, 0, h⟩
    · exact ⟨_, _, h⟩
  replace hO6 := Lib.hid hO6; replace hb6 := Lib.hid hb6
  go_wp2_with fail
  refine (fpa_nil _).mono ?_
  rintro e w7 ⟨v7, rfl, hO7, hb7⟩
  rw [partsOf_raw rfl] at hO7
  obtain ⟨so7, c7, rfl⟩ : ∃ so c, v7 = .slice so 0 c := by
    rcases hO7.row.2 with ⟨h, _⟩ | ⟨g, cap, cur, h, _⟩
    · exact ⟨none, 0, h⟩
    · exact ⟨_, _, h⟩
  replace hO7 := Lib.hid hO7; replace hb7 := Lib.hid hb7
  go_wp2_with fail
  refine (tot_nil _ _).mono ?_
  rintro e w8 ⟨rfl, hb8⟩
  rw [show (totOf [] p).val = .agg #[.int .i64 0, .int .i64 0, .int .i64 0, .int .i64 0] from rfl]
  have hEq := oEq
  replace hb8 := Lib.hid hb8
  go_wp2_with fail
  refine (ftext_nil _).mono ?_
  rintro e w9 ⟨rfl, hb9⟩
  have hlow9 := hb1.out.trans ((hlow4.out.trans ((hb6.out.trans ((hb7.out.trans ((hb8.out.trans (hb9.mono hb8.out.size)).mono hb7.out.size)).mono hb6.out.size)).mono hlow4.out.size)).mono hb1.out.size)
  have hc10 := read_any s w9 (hm.low hlow9)
  obtain ⟨er, her⟩ : ∃ er, er = (readOf s).2.1 := ⟨_, rfl⟩
  obtain ⟨ei, hei⟩ : ∃ ei, ei = (readOf s).2.2 := ⟨_, rfl⟩
  unfold ReadPost at hc10
  rw [← her, ← hei] at hc10
  have hg := readOf_good s
  clear hb9
  replace hlow9 := Lib.hid hlow9; replace hc10 := Lib.hid hc10; replace her := Lib.hid her; replace hei := Lib.hid hei; replace hg := Lib.hid hg
  go_wp2_with fail
  refine hc10.out.mono ?_
  rintro e w10 ⟨q, rfl, hb10, hcase⟩
  by_cases he0 : er = 0
  rotate_left
  · have n3 : (er != 0) = true := by simpa using he0
    replace hb10 := Lib.hid hb10; replace hcase := Lib.hid hcase; replace he0 := Lib.hid he0
    go_wp2
    go_ret
    exact ⟨rfl, hlow9.out.trans (hb10.out.mono hlow9.out.size)⟩
  subst he0
  have hyes : q = some ⟨w9.heap.size + 4, 0, none⟩ ∧ Flt w10 (w9.heap.size + 4) (w9.heap.size + 3) (w9.heap.size + 7) (readOf s).1 := by
    rcases hcase with ⟨h, _⟩ | ⟨_, h1, h2⟩
    · exact absurd rfl h
    · exact ⟨h1, h2⟩
  obtain ⟨rfl, hF10⟩ := hyes
  obtain ⟨vs, hvs⟩ : ∃ vs, vs = (readOf s).1 := ⟨_, rfl⟩
  rw [← hvs] at hF10 hg
  obtain ⟨fb, hfb⟩ : ∃ fb, fb = w9.heap.size + 4 := ⟨_, rfl⟩
  rw [← hfb] at hF10 ⊢
  have hok : FltOk vs := hg.out
  have hlow10 := hlow9.out.trans (hb10.mono hlow9.out.size)
  obtain ⟨n, hn⟩ : ∃ n, n = vs.length := ⟨_, rfl⟩
  have hn16 : n ≤ 16 := by rw [hn]; exact hok.len
  obtain ⟨T, hT⟩ : ∃ T, T = ofL (textOf vs) := ⟨_, rfl⟩
  have dT := str_eq (show T = T from rfl)
  have hc56 : ∀ W, Below w10.heap.size w10 W → Calls Tryd.prog 56 #[.pointer (some ⟨fb, 0, none⟩)] W fun e w' => e = .returned (.string T) ∧ Below W.heap.size W w' := fun W hb => by rw [hT]; exact ftext_any (hF10.below hb) hok (ht.out.low (hlow10.trans (hb.mono hlow10.size)))
  have hc38 : ∀ W, Below w10.heap.size w10 W → Calls Tryd.prog 38 #[.pointer (some ⟨fb, 0, none⟩)] W fun e w' => e = .returned (.int .i64 (n : Int)) ∧ w' = W := fun W hb => by rw [hn]; exact len_flt (hF10.below hb)
  have hc32 : ∀ (W : World) (i : Int), Below w10.heap.size w10 W → Calls Tryd.prog 32 #[.pointer (some ⟨fb, 0, none⟩), .int .i64 i] W (NodeAt vs i W) := fun W i hb => node_at (hF10.below hb) hok i
  have hc58 : ∀ (W : World) (y : ByteArray), Below w10.heap.size w10 W → Calls Tryd.prog 58 #[.pointer (some ⟨fb, 0, none⟩), .string y] W (FinPost vs y W) := fun W y hb => in_flt (hF10.below hb) hok y
  have hc59 : ∀ W, Below w10.heap.size w10 W → Calls Tryd.prog 59 #[.pointer (some ⟨fb, 0, none⟩)] W (FpaPost vs W) := fun W hb => parts_flt (hF10.below hb) hok
  replace hb10 := Lib.hid hb10; replace hcase := Lib.hid hcase; replace hF10 := Lib.hid hF10; replace hvs := Lib.hid hvs; replace hfb := Lib.hid hfb; replace hok := Lib.hid hok; replace hlow10 := Lib.hid hlow10; replace hn := Lib.hid hn; replace hT := Lib.hid hT; replace hc56 := Lib.hid hc56; replace hc38 := Lib.hid hc38; replace hc32 := Lib.hid hc32; replace hc58 := Lib.hid hc58; replace hc59 := Lib.hid hc59
  go_wp2_with fail
  refine (hc56.out _ (Below.refl _ _)).mono ?_
  rintro e w11 ⟨rfl, hb11⟩
  replace hb11 := Lib.hid hb11
  go_wp2
  go_loopw [13, 14, 15, 16, 17, 18] (fun i _ _ _ _ _ wr => ∃ k : Nat, i = .int .i64 k ∧ k ≤ n ∧ Hid (Below w10.heap.size w10 wr)) (fun i _ _ _ _ _ _ => n - (intOf i).toNat)
  case atStart => exact ⟨0, rfl, Nat.zero_le _, hb11.out⟩
  case round =>
    obtain ⟨k, rfl, hk, hL⟩ := hrel
    by_cases hc : k < n
    · have hc1 : (k : Int) < n := by omega
      have hk0 : (0 : Int) ≤ (k : Int) := by omega
      go_wp2_with fail
      refine (hc38.out _ hL.out).mono ?_
      rintro e wx ⟨rfl, rfl⟩
      go_wp2_with fail
      refine (hc32.out _ _ hL.out).mono ?_
      rintro e wn ⟨x, b, rfl, hxo, hbn, hfresh, hx⟩
      have hlow := hL.out.trans (hbn.mono hL.out.size)
      have hw : w10.heap.size ≤ wx.heap.size := hL.out.size
      have hx' : b = true ∧ vs[k]? = some x.pl := by
        rcases hx with ⟨h1, _, h2⟩ | ⟨_, _, h⟩
        · exact ⟨h1, h2⟩
        · have := hn.out; omega
      obtain ⟨rfl, hvk⟩ := hx'
      have hva := hok.out.all x.pl (List.mem_of_getElem? hvk)
      obtain ⟨nm, ⟨ca, cb, cc, cd⟩, po, pn, pc, ps⟩ := x
      have hpn : ps.length = pn := hxo.parts.len
      have hone : 1 ≤ ps.length := hva.ok.one
      have hfew : ps.length ≤ 8 := hva.few
      have hple : pn ≤ pc := hxo.ple
      obtain ⟨y0, hy0⟩ := hxo.parts.get (i := 0) (by show 0 < pn; omega)
      obtain ⟨b, off, e, hbl, _⟩ := hxo.parts.cell 0 y0 hy0
      have e' : po = some ⟨b, off, none⟩ := e
      subst e'
      obtain ⟨hbB, c9, hc9⟩ := hfresh b off rfl
      obtain ⟨W1, hW1⟩ : ∃ W1, W1 = wn.alloc (.cells (⟨nm, ⟨ca, cb, cc, cd⟩, some ⟨b, off, none⟩, pn, pc, ps⟩ : Nde).cells 48 (0, 0)) := ⟨_, rfl⟩
      have hb1' : Below wn.heap.size wn W1 := by rw [hW1]; exact (Below.refl _ _).alloc (Nat.le_refl _) _
      have hbox : W1.heap[wn.heap.size]? = some (.cells (⟨nm, ⟨ca, cb, cc, cd⟩, some ⟨b, off, none⟩, pn, pc, ps⟩ : Nde).cells 48 (0, 0)) := by rw [hW1]; exact blk_new _ _
      have hlow1 := hlow.trans (hb1'.mono hlow.size)
      have hrow9 : RowW w10.heap.size 9 (some ⟨b, off, none⟩) pn W1 := by
        refine .inr ⟨b, off, c9, rfl, Nat.le_trans hw hbB, blk_below hb1' hc9 (blk_lt hc9), ?_⟩
        obtain ⟨yl, hyl⟩ := hxo.parts.get (i := pn - 1) (by show pn - 1 < pn; omega)
        obtain ⟨b', off', e2, _, hcl⟩ := hxo.parts.cell (pn - 1) yl hyl
        cases e2
        rw [blk_cell hc9] at hcl
        have := (Array.getElem?_eq_some_iff.1 hcl).1
        omega
      have q0 : W1.cell? ⟨b, off, none⟩ = some (.string y0) := by
        obtain ⟨b', off', e2, _, hcl⟩ := (hxo.low hb1').parts.cell 0 y0 hy0
        cases e2
        exact hcl
      have q5 : W1.cell? ⟨wn.heap.size, 5, none⟩ = some (.slice (some ⟨b, off, none⟩) pn pc) := blk_cell hbox 5
      have hp0 : (0 : Int) < pn := by omega
      have hp0' : 0 < pn := by omega
      have hpn8 : pn ≤ 8 := by omega
      replace hxo := Lib.hid hxo; replace hbn := Lib.hid hbn; replace hfresh := Lib.hid hfresh; replace hx := Lib.hid hx; replace hlow := Lib.hid hlow; replace hvk := Lib.hid hvk; replace hva := Lib.hid hva; replace hpn := Lib.hid hpn; replace hone := Lib.hid hone; replace hfew := Lib.hid hfew; replace hple := Lib.hid hple; replace hy0 := Lib.hid hy0; replace hc9 := Lib.hid hc9; replace hb1' := Lib.hid hb1'; replace hbox := Lib.hid hbox; replace hlow1 := Lib.hid hlow1; replace hrow9 := Lib.hid hrow9
      have hW1' := Lib.hid hW1
      clear hW1
      go_upto_region 16 with fail
      rw [← hW1'.out]
      go_wp2_with fail
      refine (hc58.out _ _ hlow1.out).mono ?_
      rintro e w12 ⟨v, rfl, hO, hb12⟩
      obtain ⟨M, hM⟩ : ∃ M, M = (inOf vs y0).length := ⟨_, rfl⟩
      obtain ⟨so, cx, rfl, hri, hMx⟩ := row_of_own hO.row
      rw [← hM] at hri hMx ⊢
      have hri' : RowW w10.heap.size 3 so M w12 := by
        rcases hri with h | ⟨b', o', d', e3, hB, hh, hs⟩
        · exact .inl h
        · exact .inr ⟨b', o', d', e3, Nat.le_trans hlow1.out.size hB, hh, hs⟩
      have hOw : OwW w10 (⟨nm, ⟨ca, cb, cc, cd⟩, some ⟨b, off, none⟩, pn, pc, ps⟩ : Nde).cells wn.heap.size so M (some ⟨b, off, none⟩) pn w12 :=
        ⟨hlow1.out.trans (hb12.mono hlow1.out.size), blk_below hb12 hbox.out (blk_lt hbox.out), hri', hrow9.out.below hb12⟩
      clear q0 q5
      replace hO := Lib.hid hO; replace hM := Lib.hid hM; replace hri := Lib.hid hri; replace hri' := Lib.hid hri'; replace hOw := Lib.hid hOw; replace hb12 := Lib.hid hb12
      go_wp2
      go_loopw [17] (fun j wr => ∃ m : Nat, j = .int .i64 m ∧ m ≤ M ∧ Hid (OwW w10 (⟨nm, ⟨ca, cb, cc, cd⟩, some ⟨b, off, none⟩, pn, pc, ps⟩ : Nde).cells wn.heap.size so M (some ⟨b, off, none⟩) pn wr)) (fun j _ => M - (intOf j).toNat)
      case atStart => exact ⟨0, rfl, Nat.zero_le _, hOw.out⟩
      case round =>
        obtain ⟨m, rfl, hm, hL2⟩ := hrel
        by_cases hd : m < M
        · have hd1 : (m : Int) < M := by omega
          have hm0 : (0 : Int) ≤ (m : Int) := by omega
          obtain ⟨g, o, d, rfl, hB, hh, hs⟩ := hL2.out.ri.resolve_left (by omega)
          have hset := hL2.out.put (k := o + m) hh (by decide) hB (.int .i64 99)
          obtain ⟨u, hu⟩ : ∃ u, d[o + m]? = some u := ⟨_, Array.getElem?_eq_getElem (by omega)⟩
          rw [← blk_cell hh] at hu
          have hfz := blk_free hh
          clear hh
          replace hset := Lib.hid hset; replace hB := Lib.hid hB; replace hs := Lib.hid hs
          go_wp2
          go_roundw
          case rel => exact ⟨m + 1, by go_num, by omega, hset.out⟩
          case measure => simp [intOf]; omega
        · have hd1 : ¬ (m : Int) < M := by omega
          go_wp2
          go_loopw [18] (fun j wr => ∃ m : Nat, j = .int .i64 m ∧ m ≤ pn ∧ Hid (OwW w10 (⟨nm, ⟨ca, cb, cc, cd⟩, some ⟨b, off, none⟩, pn, pc, ps⟩ : Nde).cells wn.heap.size so M (some ⟨b, off, none⟩) pn wr)) (fun j _ => pn - (intOf j).toNat)
          case atStart => exact ⟨0, rfl, Nat.zero_le _, hL2.out⟩
          case round =>
            obtain ⟨m2, rfl, hm2, hL3⟩ := hrel
            have q5 := blk_cell hL3.out.box 5
            have q5' : wr.cell? ⟨wn.heap.size, 5, none⟩ = some (.slice (some ⟨b, off, none⟩) pn pc) := q5
            clear q5
            by_cases hd2 : m2 < pn
            · have hd21 : (m2 : Int) < pn := by omega
              have hm20 : (0 : Int) ≤ (m2 : Int) := by omega
              obtain ⟨g, o, d, e3, hB, hh, hs⟩ := hL3.out.rs.resolve_left (by omega)
              cases e3
              have hset := hL3.out.put (k := off + m2) hh (by decide) hB (.string { data := #[120] })
              obtain ⟨u, hu⟩ : ∃ u, d[off + m2]? = some u := ⟨_, Array.getElem?_eq_getElem (by omega)⟩
              rw [← blk_cell hh] at hu
              have hfz := blk_free hh
              clear hh
              replace hset := Lib.hid hset; replace hB := Lib.hid hB; replace hs := Lib.hid hs
              go_wp2
              go_roundw
              case rel => exact ⟨m2 + 1, by go_num, by omega, hset.out⟩
              case measure => simp [intOf]; omega
            · have hd21 : ¬ (m2 : Int) < pn := by omega
              have hlo := hL3.out.low
              replace hlo := Lib.hid hlo
              go_wp2
              go_roundw
              case rel => exact ⟨k + 1, by go_num, by omega, hlo.out⟩
              case measure => simp [intOf]; omega
    · have hc1 : ¬ (k : Int) < n := by omega
      go_wp2_with fail
      refine (hc38.out _ hL.out).mono ?_
      rintro e wx ⟨rfl, rfl⟩
      go_wp2_with fail
      refine (hc59.out _ hL.out).mono ?_
      rintro e w13 ⟨v, rfl, hO, hb13⟩
      obtain ⟨M, hM⟩ : ∃ M, M = ((partsOf vs).map ofL).length := ⟨_, rfl⟩
      obtain ⟨so, cx, rfl, hri, hMx⟩ := row_of_own hO.row
      rw [← hM] at hri hMx ⊢
      have hri' : RowW w10.heap.size 9 so M w13 := by
        rcases hri with h | ⟨b', o', d', e3, hB, hh, hs⟩
        · exact .inl h
        · exact .inr ⟨b', o', d', e3, Nat.le_trans hL.out.size hB, hh, hs⟩
      have hlow13 := hL.out.trans (hb13.mono hL.out.size)
      replace hO := Lib.hid hO; replace hM := Lib.hid hM; replace hri := Lib.hid hri; replace hri' := Lib.hid hri'; replace hlow13 := Lib.hid hlow13; replace hb13 := Lib.hid hb13
      go_wp2
      go_loopw [20] (fun j wr => ∃ m : Nat, j = .int .i64 m ∧ m ≤ M ∧ Hid (Below w10.heap.size w10 wr ∧ RowW w10.heap.size 9 so M wr)) (fun j _ => M - (intOf j).toNat)
      case atStart => exact ⟨0, rfl, Nat.zero_le _, hlow13.out, hri'.out⟩
      case round =>
        obtain ⟨m, rfl, hm, hL2⟩ := hrel
        by_cases hd : m < M
        · have hd1 : (m : Int) < M := by omega
          have hm0 : (0 : Int) ≤ (m : Int) := by omega
          obtain ⟨g, o, d, rfl, hB, hh, hs⟩ := hL2.out.2.resolve_left (by omega)
          have hset := And.intro (hL2.out.1.setCell (p := ⟨g, o + m, none⟩) hB (.string { data := #[121] })) (hL2.out.2.put (k := o + m) hh (.string { data := #[121] }))
          obtain ⟨u, hu⟩ : ∃ u, d[o + m]? = some u := ⟨_, Array.getElem?_eq_getElem (by omega)⟩
          rw [← blk_cell hh] at hu
          have hfz := blk_free hh
          clear hh
          replace hset := Lib.hid hset; replace hB := Lib.hid hB; replace hs := Lib.hid hs
          go_wp2
          go_roundw
          case rel => exact ⟨m + 1, by go_num, by omega, hset.out⟩
          case measure => simp [intOf]; omega
        · have hd1 : ¬ (m : Int) < M := by omega
          have hlo := hL2.out.1
          replace hlo := Lib.hid hlo
          go_wp2_with fail
          refine (hc56.out _ hlo.out).mono ?_
          rintro e w14 ⟨rfl, hb14⟩
          have hlo14 := hlo.out.trans (hb14.mono hlo.out.size)
          clear hb14
          replace hlo14 := Lib.hid hlo14
          go_wp2_with fail
          refine (hc59.out _ hlo14.out).mono ?_
          rintro e w15 ⟨v15, rfl, hO15, hb15⟩
          have hlo15 := hlo14.out.trans (hb15.mono hlo14.out.size)
          obtain ⟨s15, n15, c15, rfl, hP15⟩ := strs_own' hO15
          replace hO15 := Lib.hid hO15; replace hb15 := Lib.hid hb15; replace hlo15 := Lib.hid hlo15; replace hP15 := Lib.hid hP15
          go_wp2_with fail
          refine (hc59.out _ hlo15.out).mono ?_
          rintro e w16 ⟨v16, rfl, hO16, hb16⟩
          have hlo16 := hlo15.out.trans (hb16.mono hlo15.out.size)
          obtain ⟨s16, n16, c16, rfl, hP16⟩ := strs_own' hO16
          have hP := hP15.out.low hb16
          replace hO16 := Lib.hid hO16; replace hb16 := Lib.hid hb16; replace hlo16 := Lib.hid hlo16; replace hP16 := Lib.hid hP16; replace hP := Lib.hid hP
          go_wp2_with fail
          refine (texts_any _ _ _ _ _ _ _ _ _ hP.out hP16.out).mono ?_
          rintro e w17 ⟨rfl, hb17⟩
          have hlow17 := hlow10.out.trans ((hlo16.out.trans (hb17.mono hlo16.out.size)).mono hlow10.out.size)
          have dd : decide ((partsOf vs).map ofL = (partsOf vs).map ofL) = true := decide_eq_true rfl
          rw [dd]
          replace hb17 := Lib.hid hb17; replace hlow17 := Lib.hid hlow17
          go_wp2
          go_ret
          exact ⟨rfl, hlow17.out⟩
end Go.Proofs.YteoihdkaoipocaaDoor

namespace Go.Proofs.YteoihdkaoipocaaDoor
open Go.ChangeShapes Go.WideShapes Go.ChangeAt Go.RowKit Go.ChangeMaps

set_option maxRecDepth 100000 in
theorem fleetOwn_lifted (os : Os) (started : os.Started) (H : Type) (enc : TypeId × Value → H) :
    ReturnsInHanded {} Tryd.checked os 17 .any (fun w args => (Rows.fleetOwnSpec.pre enc Tryd.prog Tryd.f17 Rows.fleetOwnRow.domain false w args ∧ laidMetH Tryd.prog Rows.fleetOwnRow.laid w) ∧ sizedMet enc Tryd.prog Tryd.f17 (OpenSpec.ofChange Rows.fleetOwnSpec) false w args)
      (Rows.fleetOwnSpec.post enc Tryd.prog Tryd.f17 false true false false) := by
  refine returns_laid (C := Tryd.checked) (X := fun w _ => laidMetH Tryd.prog Rows.fleetOwnRow.laid w) (fun _ _ _ hh h => h.of_heap hh) own started (by kernel_rfl) Tryd.func17
    (ChangeSpec.witness_shaped (enc := enc) (C := Tryd.checked) (os := os) (X := fun w _ => laidMetH Tryd.prog Rows.fleetOwnRow.laid w) false (World.laidAll Tryd.prog os Rows.fleetOwnRow.laid) #[.string ByteArray.empty, .string ByteArray.empty] 8 (World.laidAll_os _ _ _)
      (World.shaped_of_ZipB (by kernel_rfl) (by kernel_rfl)) (by kernel_rfl) (by kernel_rfl) (by kernel_rfl)
      (by rw [MakeChecks.laidMetH_plain _ _ _ (by kernel_rfl)]; exact laidMet_laidAll _ (by kernel_rfl) (by kernel_rfl))) ?_
  intro W base args ds gs before hval0 hW hc hL hsh
  have hval : ∀ (j : Nat) t v, Tryd.f17.params[j]? = some t → args[j]? = some v → Value.okWide Tryd.prog W .any base t v := hval0
  have hW' := hW
  obtain ⟨p, q, hA0, hV, rfl, _, _⟩ := hW
  have hA : DataW.TrodAll enc Tryd.prog W 0 (fun _ => true) true Tryd.f17.params.toList args.toList ds p := hA0
  rw [Tryd.params17] at hA hval
  obtain ⟨v0, v1, d0, d1, p0, p1, rfl, rfl, rfl, h0, h1⟩ := trodAll_two hA
  obtain ⟨rfl, rfl⟩ := trodVars_none hV
  obtain ⟨s0, rfl, rfl, rfl, hs0⟩ := open_string Tryd.underlying9 (hval 0 9 v0 rfl rfl) h0
  obtain ⟨s1, rfl, rfl, rfl, hs1⟩ := open_string Tryd.underlying9 (hval 1 9 v1 rfl rfl) h1
  clear hA0 hval0
  refine (fown_any s0 s1 W (mx_shaped hsh) (tb_of_laid (fun w => MakeChecks.laidMetH_plain _ _ w (by kernel_rfl)) hL)).mono fun e W' ⟨he, hw⟩ => ?_
  subst he
  refine ⟨_, rfl, post_of_below hW' rfl (fun _ _ _ => ?_) rfl rfl hw ?_⟩
  · have hrt : Tryd.f17.resultTypes = #[4] := by kernel_rfl
    rw [hrt]
    exact trodAll_mk1 ⟨1, by simp [DataW.trod, Value.cells, Tryd.underlying4]⟩
  · rw [Tryd.params17]
    intro t ht
    have hm : t ∈ [9, 9] := by simpa using ht
    have hall : ([9, 9].all fun u => Tryd.prog.readableRec u && decide (u < Tryd.prog.types.size)) = true := by kernel_rfl
    have := List.all_eq_true.1 hall t hm
    rw [Bool.and_eq_true] at this
    exact ⟨this.1, of_decide_eq_true this.2⟩
theorem fleetOwn_row : Rows.FleetOwnSaid :=
  OpenClaim.holds_of_wide 17 Tryd.f17 rfl rfl rfl rfl rfl rfl rfl ⟨rfl, rfl, rfl, rfl, rfl⟩ rfl rfl rfl rfl rfl (by kernel_rfl) Tryd.func17 (by kernel_rfl)
    (of_decide_eq_true (by kernel_rfl)) (by unfold Func.isWrapper; first | (rw [if_pos (by decide +kernel)]; kernel_rfl) | (rw [if_neg (by decide +kernel)]; exact ⟨rfl, rfl⟩))
    (fun os started H enc _ => fleetOwn_lifted os started H enc)
theorem fleetOwn_holds : Rows.FleetOwnCardSaid :=
  Claim7.holds_tied_plain_at .later [] [.data, .data, .data, .data, .pinned] true (true, "d7ca3db8da485ca0b11e68421f68137e81c97920c528271bb1d28dc3225d4cd7") false fleetOwn_row (fun _ h => by cases h) (by kernel_rfl) (fun _ h => by cases h) fleetOwn_row_tie rfl ⟨rfl, rfl⟩ (by kernel_rfl) rfl
    (fun f fn hf hfn => by
      obtain rfl : f = 17 := Option.some.inj ((show Tryd.prog.funcNamed "corvee/corveelaw05.FleetOwn" = some 17 by kernel_rfl).symm.trans hf) |>.symm
      obtain rfl : fn = Tryd.f17 := (Option.some.inj (Tryd.func17.symm.trans hfn)).symm
      exact ⟨by kernel_rfl, fun j t ht => by
        rw [Tryd.params17] at ht
        have hm : t ∈ [9, 9] := by simpa using Array.mem_of_getElem? ht
        have hall : ([9, 9].all fun u => !Tryd.prog.wantsStandIn u) = true := by kernel_rfl
        exact (show Tryd.prog.wantsStandIn t = false by simpa using List.all_eq_true.1 hall t hm)⟩)
    (by kernel_rfl)
end Go.Proofs.YteoihdkaoipocaaDoor
