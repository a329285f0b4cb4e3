/- Parts Rwb, Tbl, Opn, Ops, Ope in one text. Plain theorems: no condition. -/
import Derived.Test.YteoihdkaoipocaaDoorVa
import Derived.Test.YteoihdkaoipocaaDoorRows
import Derived.Test.YteoihdkaoipocaaDoorTie
import Derived.Test.YteoihdkaoipocaaDoorCards
import Derived.ProofKit
import Derived.OpenShut
import Derived.LaidMore
import Derived.Lay
import Derived.SevenTiedAt
import Derived.Stop.Joined
import Derived.Shelf.Vars
import Derived.Test.YteoihdkaoipocaaDoorVc
import Derived.Stop.LaidErr
import Derived.Lib.LaidTab
import Derived.Deep.Slices
import Derived.Lib.SmallJoins
import Derived.Test.YteoihdkaoipocaaDoorVd
import Derived.Test.YteoihdkaoipocaaDoorVh
/- What every row of this seat uses: the world's shape beside the laid variables; the variable MaxLen holds a number. -/
namespace Go.Proofs.YteoihdkaoipocaaDoor
open Go.ChangeShapes Go.WideShapes Go.ChangeAt Go.RowKit

theorem own : ownKnob Tryd.prog.godebug = none := by kernel_rfl
theorem mx_shaped {W : World} (h : W.ShapedOpen Tryd.prog) : Mx W :=
  cell_of_shapedOpen_int (g := 0) (t := 3) (zero := #[.int .i64 0]) h (of_decide_eq_true (by kernel_rfl)) (by kernel_rfl) rfl (by kernel_rfl) (by kernel_rfl) Tryd.underlying3
variable {H : Type} {enc : TypeId × Value → H}
theorem returns_laid {a : Assume} {C : Checked} {os : Os} {f : FuncId} {fn : Func} {s : ChangeSpec} {conds : List PathCond} {apart fresh handsOn again : Bool} {X : World → Array Value → Prop}
    (hX : ∀ (w w' : World) (args : Array Value), w.heap = w'.heap → X w args → X w' args)
    (own : ownKnob C.prog.godebug = none) (started : os.Started) (noInit : C.prog.inits.idxOf? f = none) (hfn : C.prog.funcs[f]? = some fn)
    (witness : ∃ (w : World) (tape : Tape) (i : Input), w.os = os ∧ (w.forCall tape i).Shaped C.prog ∧ i.vars = [] ∧ Input.okWide C.prog (w.forCall tape i) .any w.heap.size f i ∧
      ((s.pre enc C.prog fn conds apart (w.forCall tape i).memory i.args ∧ X (w.forCall tape i).memory i.args) ∧ sizedMet enc C.prog fn (OpenSpec.ofChange s) apart (w.forCall tape i).memory i.args) ∧ a.holds C.prog (lone (Frame.enter C.prog f i.args .normal) [] (w.forCall tape i)))
    (contract : ∀ (W : World) (base : Nat) (args : Array Value) (ds gs : List (DataW H)) (before : List MemPlace),
      (∀ (j : Nat) t v, fn.params[j]? = some t → args[j]? = some v → Value.okWide C.prog W .any base t v) →
      DataW.Whole enc C.prog fn.params.toList s.vars apart W args.toList ds gs before →
      (DataW.weightsEach C.prog (fn.params.toList ++ s.plain.varTypes C.prog) (ds ++ gs)).all (· ≤ reachBytes) = true → X W args → W.ShapedOpen C.prog →
      Calls C.prog f args W fun e W' => ∃ v, e = .returned v ∧ s.post enc C.prog fn apart fresh handsOn again W args v W') :
    ReturnsInHanded a C os f .any (fun w args => (s.pre enc C.prog fn conds apart w args ∧ X w args) ∧ sizedMet enc C.prog fn (OpenSpec.ofChange s) apart w args) (s.post enc C.prog fn apart fresh handsOn again) := by
  refine returnsInHanded_of_calls own started noInit witness ?_
  intro w tape i _ hsh _ hok hpre hholds
  obtain ⟨_, _, _, fn', hfn', _, _, _, _, hval⟩ := hok
  have e : fn' = fn := Option.some.inj (hfn'.symm.trans hfn)
  subst e
  obtain ⟨⟨⟨ds, gs, before, hw, hc⟩, hx⟩, hz⟩ := hpre
  have hw' := DataW.Whole.of_heap (w' := w.forCall tape i) (by rfl) hw
  refine (contract (w.forCall tape i) w.heap.size i.args ds gs before hval hw' (hz.weights hw) (hX _ _ _ (by rfl) hx) hsh).mono fun e W' ⟨v, he, hp⟩ => ?_
  subst he
  exact ChangeSpec.post_blind hp
theorem laidOut : laidOutB Tryd.prog = true := by kernel_rfl
theorem trodAll_below {W W' : World} (hb : Below W.heap.size W W') : ∀ (ts : List TypeId) (vs : List Value) (ds : List (DataW H)) (ps : List MemPlace),
    DataW.TrodAll enc Tryd.prog W 0 (fun _ => true) true ts vs ds ps → (∀ x ∈ ps, x.block < W.heap.size) → (∀ t ∈ ts, Tryd.prog.readableRec t = true ∧ t < Tryd.prog.types.size) →
    DataW.TrodAll enc Tryd.prog W' 0 (fun b => decide (b < W.heap.size)) true ts vs ds ps
  | [], [], [], _, h, _, _ => h
  | [], _ :: _, _, _, h, _, _ => h.elim
  | [], [], _ :: _, _, h, _, _ => h.elim
  | _ :: _, [], _, _, h, _, _ => h.elim
  | _ :: _, _ :: _, [], _, h, _, _ => h.elim
  | t :: ts, v :: vs, d :: ds, ps, h, hlt, hr => by
    obtain ⟨p, q, h1, h2, rfl⟩ := h
    obtain ⟨r1, r2⟩ := hr t (by simp)
    exact ⟨p, q, Below.trod laidOut r1 r2 h1 hb (fun x hx => hlt x (by simp [hx])), trodAll_below hb ts vs ds q h2 (fun x hx => hlt x (by simp [hx])) (fun u hu => hr u (by simp [hu])), rfl⟩

theorem post_of_below {f : Func} {s : ChangeSpec} {apart fresh handsOn : Bool} {W W' : World} {args : Array Value} {v : Value} {ds gs : List (DataW H)} {before : List MemPlace}
    (hW : DataW.Whole enc Tryd.prog f.params.toList s.vars apart W args.toList ds gs before) (hs : s.vars = []) 
    (hres : ∀ (b : Nat) (sp : Nat → Bool) (hd : Bool), DataW.TrodAll enc Tryd.prog W' b sp hd f.resultTypes.toList (v.resultList f.resultTypes.size) (s.fn H (ds ++ gs)).results [])
    (hargs : (s.fn H (ds ++ gs)).args = ds) (hv : (s.fn H (ds ++ gs)).vars = []) (hb : Below W.heap.size W W')
    (hr : ∀ t ∈ f.params.toList, Tryd.prog.readableRec t = true ∧ t < Tryd.prog.types.size) :
    s.post enc Tryd.prog f apart fresh handsOn false W args v W' := by
  have hlt := hW.lt
  have hW' := hW
  obtain ⟨p, q, hA, hV, rfl, hfz, hnd⟩ := hW
  rw [hs] at hV
  obtain ⟨rfl, rfl⟩ := trodVars_none hV
  refine ⟨ds, [], p ++ [], [], p, [], hW', hres _ _ _, ?_, ?_, hb.frame _, fun h => by simp at h⟩
  · rw [hargs]
    exact trodAll_below hb _ _ _ _ hA (fun x hx => by simpa using hlt x (by simp [hx])) hr
  · rw [hv, hs]
    rfl
end Go.Proofs.YteoihdkaoipocaaDoor

/- From a row's condition to the library's table of powers of ten. -/
namespace Go.Proofs.YteoihdkaoipocaaDoor
open Go.RowKit

theorem pow_eq : (Rows.laid_internal_strconv_uint64pow10 : DataW Unit) = Lib.tabData .u64 Lib.pow10Tab := by kernel_rfl
theorem tb_of_laid {W : World} {a b : String × DataW Unit} {r : List (String × DataW Unit)} (hp : ∀ w, laidMetH Tryd.prog (a :: b :: ("internal/strconv.uint64pow10", Rows.laid_internal_strconv_uint64pow10) :: r) w = laidMet Tryd.prog (a :: b :: ("internal/strconv.uint64pow10", Rows.laid_internal_strconv_uint64pow10) :: r) w)
    (h : laidMetH Tryd.prog (a :: b :: ("internal/strconv.uint64pow10", Rows.laid_internal_strconv_uint64pow10) :: r) W) : Tb W := by
  rw [hp] at h
  have h2 := h.tail.tail
  rw [pow_eq] at h2
  exact Lib.tabBelow_of_tabIs (Lib.tabIs_of_head (g := 1) (t := 201) (e := 153) (n := 20) (by kernel_rfl) (by kernel_rfl) (by kernel_rfl) (by kernel_rfl) (by kernel_rfl) (by kernel_rfl) h2)
end Go.Proofs.YteoihdkaoipocaaDoor

/- What an argument that is a row of nodes reads as, opened. Plain theorems: no condition. -/
namespace Go.Proofs.YteoihdkaoipocaaDoor
open Go.ChangeShapes Go.WideShapes Go.ChangeAt Go.RowKit

theorem cel3 : Tryd.prog.cellsOf 3 = 1 := by kernel_rfl
theorem cel9 : Tryd.prog.cellsOf 9 = 1 := by kernel_rfl
theorem cel25 : Tryd.prog.cellsOf 25 = 4 := by kernel_rfl
theorem list4o {α : Type} {l : List α} (h : l.length = 4) : ∃ a b c d, l = [a, b, c, d] := by
  match l, h with
  | [a, b, c, d], _ => exact ⟨a, b, c, d, rfl⟩
theorem choose_belowo {α : Type} {n : Nat} {p : Nat → α → Prop} (z : α) (h : ∀ i, i < n → ∃ x, p i x) : ∃ f : Nat → α, ∀ i, i < n → p i (f i) :=
  ⟨fun i => if hi : i < n then (h i hi).choose else z, fun i hi => by simp only [hi, dif_pos]; exact (h i hi).choose_spec⟩
theorem add_plain_o (b off k : Nat) : (⟨b, off, none⟩ : Addr).add k = ⟨b, off + k, none⟩ := by unfold Addr.add; cases k <;> rfl

structure RowsO {α : Type} (cells : α → Array Value) (sz : Nat) (ok : World → α → Prop) (w : World) (so : Option Addr) (n : Nat) (xs : List α) : Prop where
  len : xs.length = n
  max : n ≤ 9223372036854775807
  cell : ∀ i x, xs[i]? = some x → ∃ b off, so = some ⟨b, off, none⟩ ∧ b < w.heap.size ∧ (∀ j, j < sz → w.cell? ⟨b, off + i * sz + j, none⟩ = (cells x)[j]?) ∧ ok w x
/-- a node of an argument -/
structure NdA (w : World) (x : Nde) : Prop where
  ok : x.ok w
  name : x.name.size ≤ maxLen
  parts : ∀ p, p ∈ x.parts → p.size ≤ maxLen
abbrev NdsAt (w : World) (so : Option Addr) (n : Nat) (xs : List Nde) : Prop := RowsO Nde.cells 6 NdA w so n xs
theorem NdsAt.low {w w' : World} {so : Option Addr} {n : Nat} {xs : List Nde} (h : NdsAt w so n xs) (hb : Below w.heap.size w w') : NdsAt w' so n xs :=
  ⟨h.len, h.max, fun i x hx => by
    obtain ⟨b, off, e, hlt, hc, ho⟩ := h.cell i x hx
    exact ⟨b, off, e, Nat.lt_of_lt_of_le hlt hb.size, fun j hj => (below_cell hb hlt).trans (hc j hj), ho.ok.low hb, ho.name, ho.parts⟩⟩

section
variable {H : Type} {enc : TypeId × Value → H} {w : World} {held : Bool} {fuel : Nat} {cs : List Value} {x : DataW H × List MemPlace}
theorem rowsO_of_trod {α : Type} (z : α) (cells : α → Array Value) (sz : Nat) (ok : World → α → Prop) {T E : TypeId} (hU : Tryd.prog.underlying T = some (.slice E)) (hc : Tryd.prog.cellsOf E = sz) (h0 : 0 < sz) (hsz : ∀ a, (cells a).size = sz)
    (hone : ∀ (fuel : Nat) (cs : List Value) (x : DataW H × List MemPlace), DataW.trod enc Tryd.prog w 0 (fun _ => true) held fuel E cs = some x → ∃ a, cs = (cells a).toList ∧ ok w a)
    {c : Value} (h : DataW.trod enc Tryd.prog w 0 (fun _ => true) held fuel T [c] = some x) : ∃ ao n cp xs, c = .slice ao n cp ∧ RowsO cells sz ok w ao n xs ∧ n ≤ cp := by
  rcases Go.Deep.open_slice hU h with ⟨hcs, _⟩ | ⟨a, len, cap, m, n, D, Pl, hcs, _, hl, hm, hmm, _, hi⟩
  · simp at hcs
    exact ⟨none, 0, 0, [], hcs, ⟨rfl, by omega, fun i x hx => by simp at hx⟩, Nat.le_refl _⟩
  · simp at hcs
    have mx : maxLen = 9223372036854775807 := by kernel_rfl
    have hmc : m = cap := by simpa using hmm
    have hc : ∀ i, i < len → ∃ x : α, ok w x ∧ ∀ j, j < sz → w.cell? (a.add (i * sz + j)) = (cells x)[j]? := fun i hil => by
      obtain ⟨cs', hc', ht⟩ := hi i (by omega)
      obtain ⟨x, rfl, ok⟩ := hone _ _ _ ht
      obtain ⟨_, _, hat⟩ := World.cells?_some hc'
      rw [hc] at hat
      exact ⟨x, ok, fun j hj => by rw [← Go.Deep.add_add, hat j hj]; simp⟩
    obtain ⟨f, hf2⟩ := choose_belowo z hc
    refine ⟨some a, len, cap, (List.range len).map f, hcs, ⟨by simp, by rw [mx] at hm; omega, fun i x hx => ?_⟩, hl⟩
    have hil : i < len := by
      have := (List.getElem?_eq_some_iff.1 hx).1
      simpa using this
    have hxe : x = f i := by
      rw [List.getElem?_map, List.getElem?_range hil] at hx
      simpa using hx.symm
    subst hxe
    have hz : ∀ i, i < len → (cells (f i))[0]? = some ((cells (f i))[0]'(by rw [hsz]; exact h0)) := fun i _ => by
      rw [Array.getElem?_eq_getElem]
    have h00 := (hf2 0 (by omega)).2 0 h0
    rw [hz 0 (by omega)] at h00
    obtain ⟨b, off, spot⟩ := a
    have hsp : spot = none := by simpa [Addr.add] using World.cell?_spot h00
    subst hsp
    have e : ∀ j, j < sz → w.cell? ⟨b, off + i * sz + j, none⟩ = (cells (f i))[j]? := fun j hj => by
      rw [← (hf2 i hil).2 j hj, add_plain_o, Nat.add_assoc]
    have e0 := e 0 h0
    rw [hz i hil] at e0
    exact ⟨b, off, rfl, World.block_lt_of_cell? w _ e0, e, (hf2 i hil).1⟩
theorem vecO_of_trod (h : DataW.trod enc Tryd.prog w 0 (fun _ => true) held fuel 25 cs = some x) : ∃ v : V4, cs = v.cells.toList := by
  obtain ⟨xs, m, _, _, hl, hn, hi⟩ := DataW.trod_array Tryd.underlying25 h
  rw [cel25] at hl
  obtain ⟨c0, c1, c2, c3, rfl⟩ := list4o hl
  have one : ∀ i, i < 4 → ∀ c : Value, (([c0, c1, c2, c3].drop (i * Tryd.prog.cellsOf 3)).take (Tryd.prog.cellsOf 3)) = [c] → ∃ n, c = .int .i64 n := fun i h4 c hc => by
    have h1 := hi i h4
    rw [hc, List.getElem?_eq_getElem (by omega)] at h1
    obtain ⟨n, e, _⟩ := DataW.trod_int Tryd.underlying3 h1
    exact ⟨n, by simpa using e⟩
  obtain ⟨n0, rfl⟩ := one 0 (by omega) c0 (by simp [cel3])
  obtain ⟨n1, rfl⟩ := one 1 (by omega) c1 (by simp [cel3])
  obtain ⟨n2, rfl⟩ := one 2 (by omega) c2 (by simp [cel3])
  obtain ⟨n3, rfl⟩ := one 3 (by omega) c3 (by simp [cel3])
  exact ⟨⟨n0, n1, n2, n3⟩, rfl⟩
end
section
variable {H : Type} {enc : TypeId × Value → H} {w : World} {held : Bool} {b0 : Nat} {r : Reach} {v : Value} {d : DataW H} {p : List MemPlace}
end
end Go.Proofs.YteoihdkaoipocaaDoor

/- What an argument that is a spec reads as, opened. Plain theorems: no condition. -/
namespace Go.Proofs.YteoihdkaoipocaaDoor
open Go.ChangeShapes Go.WideShapes Go.ChangeAt Go.RowKit

theorem wf_bd {n : Int} (h : (Lit.int .i64 n).wf = true) : -9223372036854775808 ≤ n ∧ n ≤ 9223372036854775807 := by
  simp [Lit.wf, IntKind.min, IntKind.max, IntKind.signed, IntKind.bits] at h
  omega
theorem cel4 : Tryd.prog.cellsOf 4 = 1 := by kernel_rfl
theorem cel26 : Tryd.prog.cellsOf 26 = 1 := by kernel_rfl
theorem cel28 : Tryd.prog.cellsOf 28 = 13 := by kernel_rfl
theorem list13o {α : Type} {l : List α} (h : l.length = 13) : ∃ a b c d e f g i j k m n o, l = [a, b, c, d, e, f, g, i, j, k, m, n, o] := by
  match l, h with
  | [a, b, c, d, e, f, g, i, j, k, m, n, o], _ => exact ⟨a, b, c, d, e, f, g, i, j, k, m, n, o, rfl⟩
section
variable {H : Type} {enc : TypeId × Value → H} {w : World} {held : Bool} {fuel : Nat} {cs : List Value} {x : DataW H × List MemPlace}
theorem intsO_of_trod {c : Value} (h : DataW.trod enc Tryd.prog w 0 (fun _ => true) held fuel 26 [c] = some x) : ∃ ao n cp xs, c = .slice ao n cp ∧ IntsAt w ao n xs ∧ n ≤ cp := by
  obtain ⟨ao, n, cp, xs, e, hr, hn⟩ := rowsO_of_trod (0 : Int) (fun s => #[.int .i64 s]) 1 (fun _ _ => True) Tryd.underlying26 cel3 (by decide) (fun _ => rfl) (fun fuel cs x h => by
    obtain ⟨s, e, _⟩ := DataW.trod_int Tryd.underlying3 h
    exact ⟨s, e, trivial⟩) h
  refine ⟨ao, n, cp, xs, e, ⟨hr.len, hr.max, fun i x hx => ?_⟩, hn⟩
  obtain ⟨b, off, e, hlt, hc, _⟩ := hr.cell i x hx
  have := hc 0 (by omega)
  rw [Nat.mul_one, Nat.add_zero] at this
  exact ⟨b, off, e, hlt, this⟩
set_option maxRecDepth 100000 in
theorem spec_of_trod (h : DataW.trod enc Tryd.prog w 0 (fun _ => true) held fuel 28 cs = some x) : ∃ a : Spv, cs = a.cells.toList ∧ a.ok w := by
  obtain ⟨xs, n, _, rfl, hl, hlen, hf⟩ := DataW.trod_struct Tryd.underlying28 h
  rw [cel28] at hl
  obtain ⟨c0, c1, c2, c3, c4, c5, c6, c7, c8, c9, c10, c11, c12, rfl⟩ := list13o hl
  match xs, hlen with
  | [y0, y1, y2, y3, y4, y5, y6, y7, y8, y9], _ =>
    have h0 := hf 0 _ rfl; have h1 := hf 1 _ rfl; have h2 := hf 2 _ rfl; have h3 := hf 3 _ rfl; have h4 := hf 4 _ rfl; have h5 := hf 5 _ rfl; have h6 := hf 6 _ rfl; have h7 := hf 7 _ rfl; have h8 := hf 8 _ rfl; have h9 := hf 9 _ rfl
    simp [cel9, cel25, cel3, cel4, cel26] at h0 h1 h2 h3 h4 h5 h6 h7 h8 h9
    obtain ⟨s0, e0, _, hs0⟩ := DataW.trod_string Tryd.underlying9 h0
    obtain ⟨s1, e1, _, hs1⟩ := DataW.trod_string Tryd.underlying9 h1
    obtain ⟨n2, e2, _⟩ := DataW.trod_int Tryd.underlying3 h2
    obtain ⟨v, ev⟩ := vecO_of_trod h3
    obtain ⟨n4, e4, _⟩ := DataW.trod_int Tryd.underlying3 h4
    obtain ⟨n5, e5, _⟩ := DataW.trod_int Tryd.underlying3 h5
    obtain ⟨n6, e6, _⟩ := DataW.trod_int Tryd.underlying3 h6
    obtain ⟨n7, e7, _⟩ := DataW.trod_int Tryd.underlying3 h7
    obtain ⟨b8, e8, _⟩ := DataW.trod_bool Tryd.underlying4 h8
    obtain ⟨so, m, cp, zs, rfl, hz, hmc⟩ := intsO_of_trod h9
    simp at e0 e1 e2 ev e4 e5 e6 e7 e8
    obtain ⟨rfl, rfl, rfl, rfl⟩ := ev
    subst e0 e1 e2 e4 e5 e6 e7 e8
    exact ⟨⟨⟨s0, s1, n2, v, n4, n5, n6, n7, b8, zs⟩, so, m, cp⟩, rfl, ⟨hz, hmc, hs0, hs1⟩⟩
end
section
variable {H : Type} {enc : TypeId × Value → H} {w : World} {held : Bool} {b0 : Nat} {r : Reach} {v : Value} {d : DataW H} {p : List MemPlace}
end
end Go.Proofs.YteoihdkaoipocaaDoor

/- What arguments that are bytes, an event, a row of events read as, opened. Plain theorems: no condition. -/
namespace Go.Proofs.YteoihdkaoipocaaDoor
open Go.ChangeShapes Go.WideShapes Go.ChangeAt Go.RowKit

theorem cel5 : Tryd.prog.cellsOf 5 = 1 := by kernel_rfl
theorem cel59 : Tryd.prog.cellsOf 59 = 1 := by kernel_rfl
theorem cel70 : Tryd.prog.cellsOf 70 = 10 := by kernel_rfl
theorem list10o {α : Type} {l : List α} (h : l.length = 10) : ∃ a b c d e f g i j k, l = [a, b, c, d, e, f, g, i, j, k] := by
  match l, h with
  | [a, b, c, d, e, f, g, i, j, k], _ => exact ⟨a, b, c, d, e, f, g, i, j, k, rfl⟩
theorem wf_u8 {n : Int} (h : (Lit.int .u8 n).wf = true) : 0 ≤ n ∧ n ≤ 255 := by
  simp [Lit.wf, IntKind.min, IntKind.max, IntKind.signed, IntKind.bits] at h
  omega
abbrev EvsAt (w : World) (so : Option Addr) (n : Nat) (xs : List Evv) : Prop := RowsO Evv.cells 10 Evv.ok w so n xs
theorem EvsAt.low {w w' : World} {so : Option Addr} {n : Nat} {xs : List Evv} (h : EvsAt w so n xs) (hb : Below w.heap.size w w') : EvsAt w' so n xs :=
  ⟨h.len, h.max, fun i x hx => by
    obtain ⟨b, off, e, hlt, hc, ho⟩ := h.cell i x hx
    exact ⟨b, off, e, Nat.lt_of_lt_of_le hlt hb.size, fun j hj => (below_cell hb hlt).trans (hc j hj), ho.low hb⟩⟩
section
variable {H : Type} {enc : TypeId × Value → H} {w : World} {held : Bool} {fuel : Nat} {cs : List Value} {x : DataW H × List MemPlace}
theorem nil_cap {T E : TypeId} (hU : Tryd.prog.underlying T = some (.slice E)) {so : Option Addr} {n c : Nat} (h : DataW.trod enc Tryd.prog w 0 (fun _ => true) held fuel T [.slice so n c] = some x) : so = none → n = 0 ∧ c = 0 := by
  intro e
  subst e
  rcases Go.Deep.open_slice hU h with ⟨hcs, _⟩ | ⟨a, len, cap, m, n', D, Pl, hcs, _⟩
  · simp at hcs
    exact hcs
  · simp at hcs
theorem bytesO_of_trod {c : Value} (h : DataW.trod enc Tryd.prog w 0 (fun _ => true) held fuel 67 [c] = some x) : ∃ ao n cp l, c = .slice ao n cp ∧ BytsAt w ao n l ∧ n ≤ cp ∧ (ao = none → n = 0 ∧ cp = 0) := by
  obtain ⟨ao, n, cp, xs, e, hr, hn⟩ := rowsO_of_trod (0 : UInt8) (fun s => #[.int .u8 s.toNat]) 1 (fun _ _ => True) Tryd.underlying67 cel5 (by decide) (fun _ => rfl) (fun fuel cs x h => by
    obtain ⟨s, e, _, hw⟩ := DataW.trod_int Tryd.underlying5 h
    have hb := wf_u8 hw
    refine ⟨UInt8.ofNat s.toNat, ?_, trivial⟩
    rw [e, UInt8.toNat_ofNat']
    have : ((s.toNat % 2 ^ 8 : Nat) : Int) = s := by
      have h8 : (2 : Nat) ^ 8 = 256 := by decide
      rw [h8]
      omega
    rw [this]) h
  rw [e] at h
  refine ⟨ao, n, cp, xs, e, ⟨hr.len, hr.max, fun i x hx => ?_⟩, hn, nil_cap Tryd.underlying67 h⟩
  obtain ⟨b, off, e, hlt, hc, _⟩ := hr.cell i x hx
  have := hc 0 (by omega)
  rw [Nat.mul_one, Nat.add_zero] at this
  exact ⟨b, off, e, hlt, this⟩
theorem spsO_of_trod {c : Value} (h : DataW.trod enc Tryd.prog w 0 (fun _ => true) held fuel 59 [c] = some x) : ∃ ao n cp xs, c = .slice ao n cp ∧ SpsAt w ao n xs ∧ n ≤ cp := by
  obtain ⟨ao, n, cp, xs, e, hr, hn⟩ := rowsO_of_trod Spv.zero Spv.cells 13 (fun w s => s.ok w) Tryd.underlying59 cel28 (by decide) (fun _ => rfl) (fun fuel cs x h => spec_of_trod h) h
  exact ⟨ao, n, cp, xs, e, ⟨hr.len, hr.max, hr.cell⟩, hn⟩
set_option maxRecDepth 100000 in
theorem event_of_trod (h : DataW.trod enc Tryd.prog w 0 (fun _ => true) held fuel 70 cs = some x) : ∃ a : Evv, cs = a.cells.toList ∧ a.ok w := by
  obtain ⟨xs, n, _, rfl, hl, hlen, hf⟩ := DataW.trod_struct Tryd.underlying70 h
  rw [cel70] at hl
  obtain ⟨c0, c1, c2, c3, c4, c5, c6, c7, c8, c9, rfl⟩ := list10o hl
  match xs, hlen with
  | [y0, y1, y2, y3, y4, y5, y6, y7, y8, y9], _ =>
    have h0 := hf 0 _ rfl; have h1 := hf 1 _ rfl; have h2 := hf 2 _ rfl; have h3 := hf 3 _ rfl; have h4 := hf 4 _ rfl; have h5 := hf 5 _ rfl; have h6 := hf 6 _ rfl; have h7 := hf 7 _ rfl; have h8 := hf 8 _ rfl; have h9 := hf 9 _ rfl
    simp [cel3, cel59] at h0 h1 h2 h3 h4 h5 h6 h7 h8 h9
    obtain ⟨n0, e0, _, w0⟩ := DataW.trod_int Tryd.underlying3 h0
    obtain ⟨n1, e1, _, w1⟩ := DataW.trod_int Tryd.underlying3 h1
    obtain ⟨n2, e2, _, w2⟩ := DataW.trod_int Tryd.underlying3 h2
    obtain ⟨n3, e3, _, w3⟩ := DataW.trod_int Tryd.underlying3 h3
    obtain ⟨n4, e4, _, w4⟩ := DataW.trod_int Tryd.underlying3 h4
    obtain ⟨n5, e5, _, w5⟩ := DataW.trod_int Tryd.underlying3 h5
    obtain ⟨n6, e6, _, w6⟩ := DataW.trod_int Tryd.underlying3 h6
    obtain ⟨n7, e7, _, w7⟩ := DataW.trod_int Tryd.underlying3 h7
    obtain ⟨n8, e8, _, w8⟩ := DataW.trod_int Tryd.underlying3 h8
    obtain ⟨so, m, cp, zs, rfl, hz, hmc⟩ := spsO_of_trod h9
    simp at e0 e1 e2 e3 e4 e5 e6 e7 e8
    subst e0 e1 e2 e3 e4 e5 e6 e7 e8
    refine ⟨⟨⟨n0, n1, n2, n3, n4, n5, n6, n7, n8⟩, so, m, cp, zs⟩, rfl, ⟨hz, hmc, fun i => ?_⟩⟩
    have b0 := wf_bd w0; have b1 := wf_bd w1; have b2 := wf_bd w2; have b3 := wf_bd w3; have b4 := wf_bd w4; have b5 := wf_bd w5; have b6 := wf_bd w6; have b7 := wf_bd w7; have b8 := wf_bd w8
    unfold Evn.get
    split <;> first | assumption | omega
end
section
variable {H : Type} {enc : TypeId × Value → H} {w : World} {held : Bool} {b0 : Nat} {r : Reach} {v : Value} {d : DataW H} {p : List MemPlace}
set_option maxRecDepth 100000 in
theorem open_bytes (hv : Value.okWide Tryd.prog w r b0 67 v) (h : DataW.Trod enc Tryd.prog w 0 (fun _ => true) held 67 v d p) : ∃ ao n cp l, v = .slice ao n cp ∧ BytsAt w ao n l ∧ n ≤ cp ∧ (ao = none → n = 0 ∧ cp = 0) := by
  obtain ⟨fuel, hf⟩ := h
  have hvc : v.cells.toList = [v] := by
    simp only [Value.okWide, Tryd.underlying67, Cell.okWide] at hv
    cases v <;> simp_all [Value.cells, Cell.ok]
  rw [hvc] at hf
  exact bytesO_of_trod hf
set_option maxRecDepth 100000 in
theorem open_event (hv : Value.okWide Tryd.prog w r b0 70 v) (h : DataW.Trod enc Tryd.prog w 0 (fun _ => true) held 70 v d p) : ∃ a : Evv, v = a.val ∧ a.ok w := by
  obtain ⟨fuel, hf⟩ := h
  obtain ⟨cs, rfl⟩ : ∃ cs, v = .agg cs := by
    simp only [Value.okWide, Tryd.underlying70] at hv
    cases v <;> simp_all
  obtain ⟨a, e, hok⟩ := event_of_trod hf
  refine ⟨a, ?_, hok⟩
  have e2 : cs = a.cells := Array.toList_inj.1 e
  rw [e2]
set_option maxRecDepth 100000 in
theorem open_events (hv : Value.okWide Tryd.prog w r b0 66 v) (h : DataW.Trod enc Tryd.prog w 0 (fun _ => true) held 66 v d p) : ∃ ao n cp xs, v = .slice ao n cp ∧ EvsAt w ao n xs ∧ n ≤ cp := by
  obtain ⟨fuel, hf⟩ := h
  have hvc : v.cells.toList = [v] := by
    simp only [Value.okWide, Tryd.underlying66, Cell.okWide] at hv
    cases v <;> simp_all [Value.cells, Cell.ok]
  rw [hvc] at hf
  obtain ⟨ao, n, cp, xs, e, hr, hn⟩ := rowsO_of_trod (⟨Evn.zero, none, 0, 0, []⟩ : Evv) Evv.cells 10 (fun w s => s.ok w) Tryd.underlying66 cel70 (by decide) (fun _ => rfl) (fun _ _ _ h => event_of_trod h) hf
  exact ⟨ao, n, cp, xs, e, hr, hn⟩
end
end Go.Proofs.YteoihdkaoipocaaDoor
