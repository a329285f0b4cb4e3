/- What fits a fleet fits one with more nodes; what does not, fits none with fewer: for every input the law returns true, and each argument reads behind the call as it read before. The listed variables are laid and tied. The arguments' bulk is at most 1048576. No further condition. -/
import Derived.Test.YteoihdkaoipocaaDoorQa
import Derived.Test.YteoihdkaoipocaaDoorRows
import Derived.Test.YteoihdkaoipocaaDoorTie
import Derived.Test.YteoihdkaoipocaaDoorCards
import Derived.ProofKit
import Derived.OpenShut
import Derived.LaidMore
import Derived.Lay
import Derived.SevenTiedAt
import Derived.Stop.Joined
import Derived.Shelf.Vars
import Derived.Test.YteoihdkaoipocaaDoorQb
import Derived.Stop.LaidErr
import Derived.Lib.LaidTab
import Derived.Deep.Slices
import Derived.Lib.SmallJoins
import Derived.Test.YteoihdkaoipocaaDoorQd
import Derived.Test.YteoihdkaoipocaaDoorQc
import Derived.Test.YteoihdkaoipocaaDoorQe
import Derived.Deep.DeepCutAuto
import Derived.JoinedCond
import Derived.Deep.DeepHandedRow
/- What every row of this seat uses: the world's shape beside the laid variables; the variable MaxLen holds a number. -/
namespace Go.Proofs.YteoihdkaoipocaaDoor
open Go.ChangeShapes Go.WideShapes Go.ChangeAt Go.RowKit

theorem own : ownKnob Tryd.prog.godebug = none := by kernel_rfl
theorem mx_shaped {W : World} (h : W.ShapedOpen Tryd.prog) : Mx W :=
  cell_of_shapedOpen_int (g := 0) (t := 3) (zero := #[.int .i64 0]) h (of_decide_eq_true (by kernel_rfl)) (by kernel_rfl) rfl (by kernel_rfl) (by kernel_rfl) Tryd.underlying3
variable {H : Type} {enc : TypeId × Value → H}
theorem returns_laid {a : Assume} {C : Checked} {os : Os} {f : FuncId} {fn : Func} {s : ChangeSpec} {conds : List PathCond} {apart fresh handsOn again : Bool} {X : World → Array Value → Prop}
    (hX : ∀ (w w' : World) (args : Array Value), w.heap = w'.heap → X w args → X w' args)
    (own : ownKnob C.prog.godebug = none) (started : os.Started) (noInit : C.prog.inits.idxOf? f = none) (hfn : C.prog.funcs[f]? = some fn)
    (witness : ∃ (w : World) (tape : Tape) (i : Input), w.os = os ∧ (w.forCall tape i).Shaped C.prog ∧ i.vars = [] ∧ Input.okWide C.prog (w.forCall tape i) .any w.heap.size f i ∧
      ((s.pre enc C.prog fn conds apart (w.forCall tape i).memory i.args ∧ X (w.forCall tape i).memory i.args) ∧ sizedMet enc C.prog fn (OpenSpec.ofChange s) apart (w.forCall tape i).memory i.args) ∧ a.holds C.prog (lone (Frame.enter C.prog f i.args .normal) [] (w.forCall tape i)))
    (contract : ∀ (W : World) (base : Nat) (args : Array Value) (ds gs : List (DataW H)) (before : List MemPlace),
      (∀ (j : Nat) t v, fn.params[j]? = some t → args[j]? = some v → Value.okWide C.prog W .any base t v) →
      DataW.Whole enc C.prog fn.params.toList s.vars apart W args.toList ds gs before →
      (DataW.weightsEach C.prog (fn.params.toList ++ s.plain.varTypes C.prog) (ds ++ gs)).all (· ≤ reachBytes) = true → X W args → W.ShapedOpen C.prog →
      Calls C.prog f args W fun e W' => ∃ v, e = .returned v ∧ s.post enc C.prog fn apart fresh handsOn again W args v W') :
    ReturnsInHanded a C os f .any (fun w args => (s.pre enc C.prog fn conds apart w args ∧ X w args) ∧ sizedMet enc C.prog fn (OpenSpec.ofChange s) apart w args) (s.post enc C.prog fn apart fresh handsOn again) := by
  refine returnsInHanded_of_calls own started noInit witness ?_
  intro w tape i _ hsh _ hok hpre hholds
  obtain ⟨_, _, _, fn', hfn', _, _, _, _, hval⟩ := hok
  have e : fn' = fn := Option.some.inj (hfn'.symm.trans hfn)
  subst e
  obtain ⟨⟨⟨ds, gs, before, hw, hc⟩, hx⟩, hz⟩ := hpre
  have hw' := DataW.Whole.of_heap (w' := w.forCall tape i) (by rfl) hw
  refine (contract (w.forCall tape i) w.heap.size i.args ds gs before hval hw' (hz.weights hw) (hX _ _ _ (by rfl) hx) hsh).mono fun e W' ⟨v, he, hp⟩ => ?_
  subst he
  exact ChangeSpec.post_blind hp
theorem laidOut : laidOutB Tryd.prog = true := by kernel_rfl
theorem trodAll_below {W W' : World} (hb : Below W.heap.size W W') : ∀ (ts : List TypeId) (vs : List Value) (ds : List (DataW H)) (ps : List MemPlace),
    DataW.TrodAll enc Tryd.prog W 0 (fun _ => true) true ts vs ds ps → (∀ x ∈ ps, x.block < W.heap.size) → (∀ t ∈ ts, Tryd.prog.readableRec t = true ∧ t < Tryd.prog.types.size) →
    DataW.TrodAll enc Tryd.prog W' 0 (fun b => decide (b < W.heap.size)) true ts vs ds ps
  | [], [], [], _, h, _, _ => h
  | [], _ :: _, _, _, h, _, _ => h.elim
  | [], [], _ :: _, _, h, _, _ => h.elim
  | _ :: _, [], _, _, h, _, _ => h.elim
  | _ :: _, _ :: _, [], _, h, _, _ => h.elim
  | t :: ts, v :: vs, d :: ds, ps, h, hlt, hr => by
    obtain ⟨p, q, h1, h2, rfl⟩ := h
    obtain ⟨r1, r2⟩ := hr t (by simp)
    exact ⟨p, q, Below.trod laidOut r1 r2 h1 hb (fun x hx => hlt x (by simp [hx])), trodAll_below hb ts vs ds q h2 (fun x hx => hlt x (by simp [hx])) (fun u hu => hr u (by simp [hu])), rfl⟩

theorem post_of_below {f : Func} {s : ChangeSpec} {apart fresh handsOn : Bool} {W W' : World} {args : Array Value} {v : Value} {ds gs : List (DataW H)} {before : List MemPlace}
    (hW : DataW.Whole enc Tryd.prog f.params.toList s.vars apart W args.toList ds gs before) (hs : s.vars = []) 
    (hres : ∀ (b : Nat) (sp : Nat → Bool) (hd : Bool), DataW.TrodAll enc Tryd.prog W' b sp hd f.resultTypes.toList (v.resultList f.resultTypes.size) (s.fn H (ds ++ gs)).results [])
    (hargs : (s.fn H (ds ++ gs)).args = ds) (hv : (s.fn H (ds ++ gs)).vars = []) (hb : Below W.heap.size W W')
    (hr : ∀ t ∈ f.params.toList, Tryd.prog.readableRec t = true ∧ t < Tryd.prog.types.size) :
    s.post enc Tryd.prog f apart fresh handsOn false W args v W' := by
  have hlt := hW.lt
  have hW' := hW
  obtain ⟨p, q, hA, hV, rfl, hfz, hnd⟩ := hW
  rw [hs] at hV
  obtain ⟨rfl, rfl⟩ := trodVars_none hV
  refine ⟨ds, [], p ++ [], [], p, [], hW', hres _ _ _, ?_, ?_, hb.frame _, fun h => by simp at h⟩
  · rw [hargs]
    exact trodAll_below hb _ _ _ _ hA (fun x hx => by simpa using hlt x (by simp [hx])) hr
  · rw [hv, hs]
    rfl
end Go.Proofs.YteoihdkaoipocaaDoor

/- From a row's condition to the library's table of powers of ten. -/
namespace Go.Proofs.YteoihdkaoipocaaDoor
open Go.RowKit

theorem pow_eq : (Rows.laid_internal_strconv_uint64pow10 : DataW Unit) = Lib.tabData .u64 Lib.pow10Tab := by kernel_rfl
theorem tb_of_laid {W : World} {a b : String × DataW Unit} {r : List (String × DataW Unit)} (hp : ∀ w, laidMetH Tryd.prog (a :: b :: ("internal/strconv.uint64pow10", Rows.laid_internal_strconv_uint64pow10) :: r) w = laidMet Tryd.prog (a :: b :: ("internal/strconv.uint64pow10", Rows.laid_internal_strconv_uint64pow10) :: r) w)
    (h : laidMetH Tryd.prog (a :: b :: ("internal/strconv.uint64pow10", Rows.laid_internal_strconv_uint64pow10) :: r) W) : Tb W := by
  rw [hp] at h
  have h2 := h.tail.tail
  rw [pow_eq] at h2
  exact Lib.tabBelow_of_tabIs (Lib.tabIs_of_head (g := 1) (t := 201) (e := 153) (n := 20) (by kernel_rfl) (by kernel_rfl) (by kernel_rfl) (by kernel_rfl) (by kernel_rfl) (by kernel_rfl) h2)
end Go.Proofs.YteoihdkaoipocaaDoor

/- What an argument that is a row of nodes reads as, opened. Plain theorems: no condition. -/
namespace Go.Proofs.YteoihdkaoipocaaDoor
open Go.ChangeShapes Go.WideShapes Go.ChangeAt Go.RowKit

theorem cel3 : Tryd.prog.cellsOf 3 = 1 := by kernel_rfl
theorem cel9 : Tryd.prog.cellsOf 9 = 1 := by kernel_rfl
theorem cel25 : Tryd.prog.cellsOf 25 = 4 := by kernel_rfl
theorem cel36 : Tryd.prog.cellsOf 36 = 1 := by kernel_rfl
theorem cel48 : Tryd.prog.cellsOf 48 = 6 := by kernel_rfl
theorem list4o {α : Type} {l : List α} (h : l.length = 4) : ∃ a b c d, l = [a, b, c, d] := by
  match l, h with
  | [a, b, c, d], _ => exact ⟨a, b, c, d, rfl⟩
theorem list6o {α : Type} {l : List α} (h : l.length = 6) : ∃ a b c d e f, l = [a, b, c, d, e, f] := by
  match l, h with
  | [a, b, c, d, e, f], _ => exact ⟨a, b, c, d, e, f, rfl⟩
theorem choose_belowo {α : Type} {n : Nat} {p : Nat → α → Prop} (z : α) (h : ∀ i, i < n → ∃ x, p i x) : ∃ f : Nat → α, ∀ i, i < n → p i (f i) :=
  ⟨fun i => if hi : i < n then (h i hi).choose else z, fun i hi => by simp only [hi, dif_pos]; exact (h i hi).choose_spec⟩
theorem add_plain_o (b off k : Nat) : (⟨b, off, none⟩ : Addr).add k = ⟨b, off + k, none⟩ := by unfold Addr.add; cases k <;> rfl

structure RowsO {α : Type} (cells : α → Array Value) (sz : Nat) (ok : World → α → Prop) (w : World) (so : Option Addr) (n : Nat) (xs : List α) : Prop where
  len : xs.length = n
  max : n ≤ 9223372036854775807
  cell : ∀ i x, xs[i]? = some x → ∃ b off, so = some ⟨b, off, none⟩ ∧ b < w.heap.size ∧ (∀ j, j < sz → w.cell? ⟨b, off + i * sz + j, none⟩ = (cells x)[j]?) ∧ ok w x
/-- a node of an argument -/
structure NdA (w : World) (x : Nde) : Prop where
  ok : x.ok w
  name : x.name.size ≤ maxLen
  parts : ∀ p, p ∈ x.parts → p.size ≤ maxLen
abbrev NdsAt (w : World) (so : Option Addr) (n : Nat) (xs : List Nde) : Prop := RowsO Nde.cells 6 NdA w so n xs
theorem NdsAt.low {w w' : World} {so : Option Addr} {n : Nat} {xs : List Nde} (h : NdsAt w so n xs) (hb : Below w.heap.size w w') : NdsAt w' so n xs :=
  ⟨h.len, h.max, fun i x hx => by
    obtain ⟨b, off, e, hlt, hc, ho⟩ := h.cell i x hx
    exact ⟨b, off, e, Nat.lt_of_lt_of_le hlt hb.size, fun j hj => (below_cell hb hlt).trans (hc j hj), ho.ok.low hb, ho.name, ho.parts⟩⟩

section
variable {H : Type} {enc : TypeId × Value → H} {w : World} {held : Bool} {fuel : Nat} {cs : List Value} {x : DataW H × List MemPlace}
theorem rowsO_of_trod {α : Type} (z : α) (cells : α → Array Value) (sz : Nat) (ok : World → α → Prop) {T E : TypeId} (hU : Tryd.prog.underlying T = some (.slice E)) (hc : Tryd.prog.cellsOf E = sz) (h0 : 0 < sz) (hsz : ∀ a, (cells a).size = sz)
    (hone : ∀ (fuel : Nat) (cs : List Value) (x : DataW H × List MemPlace), DataW.trod enc Tryd.prog w 0 (fun _ => true) held fuel E cs = some x → ∃ a, cs = (cells a).toList ∧ ok w a)
    {c : Value} (h : DataW.trod enc Tryd.prog w 0 (fun _ => true) held fuel T [c] = some x) : ∃ ao n cp xs, c = .slice ao n cp ∧ RowsO cells sz ok w ao n xs ∧ n ≤ cp := by
  rcases Go.Deep.open_slice hU h with ⟨hcs, _⟩ | ⟨a, len, cap, m, n, D, Pl, hcs, _, hl, hm, hmm, _, hi⟩
  · simp at hcs
    exact ⟨none, 0, 0, [], hcs, ⟨rfl, by omega, fun i x hx => by simp at hx⟩, Nat.le_refl _⟩
  · simp at hcs
    have mx : maxLen = 9223372036854775807 := by kernel_rfl
    have hmc : m = cap := by simpa using hmm
    have hc : ∀ i, i < len → ∃ x : α, ok w x ∧ ∀ j, j < sz → w.cell? (a.add (i * sz + j)) = (cells x)[j]? := fun i hil => by
      obtain ⟨cs', hc', ht⟩ := hi i (by omega)
      obtain ⟨x, rfl, ok⟩ := hone _ _ _ ht
      obtain ⟨_, _, hat⟩ := World.cells?_some hc'
      rw [hc] at hat
      exact ⟨x, ok, fun j hj => by rw [← Go.Deep.add_add, hat j hj]; simp⟩
    obtain ⟨f, hf2⟩ := choose_belowo z hc
    refine ⟨some a, len, cap, (List.range len).map f, hcs, ⟨by simp, by rw [mx] at hm; omega, fun i x hx => ?_⟩, hl⟩
    have hil : i < len := by
      have := (List.getElem?_eq_some_iff.1 hx).1
      simpa using this
    have hxe : x = f i := by
      rw [List.getElem?_map, List.getElem?_range hil] at hx
      simpa using hx.symm
    subst hxe
    have hz : ∀ i, i < len → (cells (f i))[0]? = some ((cells (f i))[0]'(by rw [hsz]; exact h0)) := fun i _ => by
      rw [Array.getElem?_eq_getElem]
    have h00 := (hf2 0 (by omega)).2 0 h0
    rw [hz 0 (by omega)] at h00
    obtain ⟨b, off, spot⟩ := a
    have hsp : spot = none := by simpa [Addr.add] using World.cell?_spot h00
    subst hsp
    have e : ∀ j, j < sz → w.cell? ⟨b, off + i * sz + j, none⟩ = (cells (f i))[j]? := fun j hj => by
      rw [← (hf2 i hil).2 j hj, add_plain_o, Nat.add_assoc]
    have e0 := e 0 h0
    rw [hz i hil] at e0
    exact ⟨b, off, rfl, World.block_lt_of_cell? w _ e0, e, (hf2 i hil).1⟩
theorem strsO_of_trod {c : Value} (h : DataW.trod enc Tryd.prog w 0 (fun _ => true) held fuel 36 [c] = some x) : ∃ ao n cp xs, c = .slice ao n cp ∧ StrsAt w ao n xs ∧ (∀ p, p ∈ xs → p.size ≤ maxLen) ∧ n ≤ cp := by
  obtain ⟨ao, n, cp, xs, e, hr, hn⟩ := rowsO_of_trod ByteArray.empty (fun s => #[.string s]) 1 (fun _ s => s.size ≤ maxLen) Tryd.underlying36 cel9 (by decide) (fun _ => rfl) (fun fuel cs x h => by
    obtain ⟨s, e, _, hs⟩ := DataW.trod_string Tryd.underlying9 h
    exact ⟨s, e, hs⟩) h
  refine ⟨ao, n, cp, xs, e, ⟨hr.len, hr.max, fun i x hx => ?_⟩, fun p hp => ?_, hn⟩
  · obtain ⟨b, off, e, hlt, hc, _⟩ := hr.cell i x hx
    have := hc 0 (by omega)
    rw [Nat.mul_one, Nat.add_zero] at this
    exact ⟨b, off, e, hlt, this⟩
  · obtain ⟨i, hi⟩ := List.mem_iff_getElem?.1 hp
    obtain ⟨_, _, _, _, _, h⟩ := hr.cell i p hi
    exact h
theorem vecO_of_trod (h : DataW.trod enc Tryd.prog w 0 (fun _ => true) held fuel 25 cs = some x) : ∃ v : V4, cs = v.cells.toList := by
  obtain ⟨xs, m, _, _, hl, hn, hi⟩ := DataW.trod_array Tryd.underlying25 h
  rw [cel25] at hl
  obtain ⟨c0, c1, c2, c3, rfl⟩ := list4o hl
  have one : ∀ i, i < 4 → ∀ c : Value, (([c0, c1, c2, c3].drop (i * Tryd.prog.cellsOf 3)).take (Tryd.prog.cellsOf 3)) = [c] → ∃ n, c = .int .i64 n := fun i h4 c hc => by
    have h1 := hi i h4
    rw [hc, List.getElem?_eq_getElem (by omega)] at h1
    obtain ⟨n, e, _⟩ := DataW.trod_int Tryd.underlying3 h1
    exact ⟨n, by simpa using e⟩
  obtain ⟨n0, rfl⟩ := one 0 (by omega) c0 (by simp [cel3])
  obtain ⟨n1, rfl⟩ := one 1 (by omega) c1 (by simp [cel3])
  obtain ⟨n2, rfl⟩ := one 2 (by omega) c2 (by simp [cel3])
  obtain ⟨n3, rfl⟩ := one 3 (by omega) c3 (by simp [cel3])
  exact ⟨⟨n0, n1, n2, n3⟩, rfl⟩
theorem node_of_trod (h : DataW.trod enc Tryd.prog w 0 (fun _ => true) held fuel 48 cs = some x) : ∃ a : Nde, cs = a.cells.toList ∧ NdA w a := by
  obtain ⟨xs, n, _, rfl, hl, hlen, hf⟩ := DataW.trod_struct Tryd.underlying48 h
  rw [cel48] at hl
  obtain ⟨c0, c1, c2, c3, c4, c5, rfl⟩ := list6o hl
  match xs, hlen with
  | [y0, y1, y2], _ =>
    have h0 := hf 0 _ rfl; have h1 := hf 1 _ rfl; have h2 := hf 2 _ rfl
    simp [cel9, cel25, cel36] at h0 h1 h2
    obtain ⟨s, e0, _, hs⟩ := DataW.trod_string Tryd.underlying9 h0
    obtain ⟨v, ev⟩ := vecO_of_trod h1
    obtain ⟨po, pn, pc, ps, rfl, hp, hps, hpc⟩ := strsO_of_trod h2
    simp at e0 ev
    obtain ⟨rfl, rfl, rfl, rfl⟩ := ev
    subst e0
    exact ⟨⟨s, v, po, pn, pc, ps⟩, rfl, ⟨hp, hpc⟩, hs, hps⟩
end
section
variable {H : Type} {enc : TypeId × Value → H} {w : World} {held : Bool} {b0 : Nat} {r : Reach} {v : Value} {d : DataW H} {p : List MemPlace}
set_option maxRecDepth 100000 in
theorem open_nodes (hv : Value.okWide Tryd.prog w r b0 42 v) (h : DataW.Trod enc Tryd.prog w 0 (fun _ => true) held 42 v d p) : ∃ ao n cp xs, v = .slice ao n cp ∧ NdsAt w ao n xs := by
  obtain ⟨fuel, hf⟩ := h
  have hvc : v.cells.toList = [v] := by
    simp only [Value.okWide, Tryd.underlying42, Cell.okWide] at hv
    cases v <;> simp_all [Value.cells, Cell.ok]
  rw [hvc] at hf
  obtain ⟨ao, n, cp, xs, e, hr, _⟩ := rowsO_of_trod Nde.zero Nde.cells 6 NdA Tryd.underlying42 cel48 (by decide) (fun _ => rfl) (fun _ _ _ h => node_of_trod h) hf
  exact ⟨ao, n, cp, xs, e, hr⟩
end
end Go.Proofs.YteoihdkaoipocaaDoor

/- What an argument that is a spec reads as, opened. Plain theorems: no condition. -/
namespace Go.Proofs.YteoihdkaoipocaaDoor
open Go.ChangeShapes Go.WideShapes Go.ChangeAt Go.RowKit

theorem wf_bd {n : Int} (h : (Lit.int .i64 n).wf = true) : -9223372036854775808 ≤ n ∧ n ≤ 9223372036854775807 := by
  simp [Lit.wf, IntKind.min, IntKind.max, IntKind.signed, IntKind.bits] at h
  omega
theorem cel4 : Tryd.prog.cellsOf 4 = 1 := by kernel_rfl
theorem cel26 : Tryd.prog.cellsOf 26 = 1 := by kernel_rfl
theorem cel28 : Tryd.prog.cellsOf 28 = 13 := by kernel_rfl
theorem list13o {α : Type} {l : List α} (h : l.length = 13) : ∃ a b c d e f g i j k m n o, l = [a, b, c, d, e, f, g, i, j, k, m, n, o] := by
  match l, h with
  | [a, b, c, d, e, f, g, i, j, k, m, n, o], _ => exact ⟨a, b, c, d, e, f, g, i, j, k, m, n, o, rfl⟩
section
variable {H : Type} {enc : TypeId × Value → H} {w : World} {held : Bool} {fuel : Nat} {cs : List Value} {x : DataW H × List MemPlace}
theorem intsO_of_trod {c : Value} (h : DataW.trod enc Tryd.prog w 0 (fun _ => true) held fuel 26 [c] = some x) : ∃ ao n cp xs, c = .slice ao n cp ∧ IntsAt w ao n xs ∧ n ≤ cp := by
  obtain ⟨ao, n, cp, xs, e, hr, hn⟩ := rowsO_of_trod (0 : Int) (fun s => #[.int .i64 s]) 1 (fun _ _ => True) Tryd.underlying26 cel3 (by decide) (fun _ => rfl) (fun fuel cs x h => by
    obtain ⟨s, e, _⟩ := DataW.trod_int Tryd.underlying3 h
    exact ⟨s, e, trivial⟩) h
  refine ⟨ao, n, cp, xs, e, ⟨hr.len, hr.max, fun i x hx => ?_⟩, hn⟩
  obtain ⟨b, off, e, hlt, hc, _⟩ := hr.cell i x hx
  have := hc 0 (by omega)
  rw [Nat.mul_one, Nat.add_zero] at this
  exact ⟨b, off, e, hlt, this⟩
set_option maxRecDepth 100000 in
theorem spec_of_trod (h : DataW.trod enc Tryd.prog w 0 (fun _ => true) held fuel 28 cs = some x) : ∃ a : Spv, cs = a.cells.toList ∧ a.ok w := by
  obtain ⟨xs, n, _, rfl, hl, hlen, hf⟩ := DataW.trod_struct Tryd.underlying28 h
  rw [cel28] at hl
  obtain ⟨c0, c1, c2, c3, c4, c5, c6, c7, c8, c9, c10, c11, c12, rfl⟩ := list13o hl
  match xs, hlen with
  | [y0, y1, y2, y3, y4, y5, y6, y7, y8, y9], _ =>
    have h0 := hf 0 _ rfl; have h1 := hf 1 _ rfl; have h2 := hf 2 _ rfl; have h3 := hf 3 _ rfl; have h4 := hf 4 _ rfl; have h5 := hf 5 _ rfl; have h6 := hf 6 _ rfl; have h7 := hf 7 _ rfl; have h8 := hf 8 _ rfl; have h9 := hf 9 _ rfl
    simp [cel9, cel25, cel3, cel4, cel26] at h0 h1 h2 h3 h4 h5 h6 h7 h8 h9
    obtain ⟨s0, e0, _, hs0⟩ := DataW.trod_string Tryd.underlying9 h0
    obtain ⟨s1, e1, _, hs1⟩ := DataW.trod_string Tryd.underlying9 h1
    obtain ⟨n2, e2, _⟩ := DataW.trod_int Tryd.underlying3 h2
    obtain ⟨v, ev⟩ := vecO_of_trod h3
    obtain ⟨n4, e4, _⟩ := DataW.trod_int Tryd.underlying3 h4
    obtain ⟨n5, e5, _⟩ := DataW.trod_int Tryd.underlying3 h5
    obtain ⟨n6, e6, _⟩ := DataW.trod_int Tryd.underlying3 h6
    obtain ⟨n7, e7, _⟩ := DataW.trod_int Tryd.underlying3 h7
    obtain ⟨b8, e8, _⟩ := DataW.trod_bool Tryd.underlying4 h8
    obtain ⟨so, m, cp, zs, rfl, hz, hmc⟩ := intsO_of_trod h9
    simp at e0 e1 e2 ev e4 e5 e6 e7 e8
    obtain ⟨rfl, rfl, rfl, rfl⟩ := ev
    subst e0 e1 e2 e4 e5 e6 e7 e8
    exact ⟨⟨⟨s0, s1, n2, v, n4, n5, n6, n7, b8, zs⟩, so, m, cp⟩, rfl, ⟨hz, hmc, hs0, hs1⟩⟩
end
section
variable {H : Type} {enc : TypeId × Value → H} {w : World} {held : Bool} {b0 : Nat} {r : Reach} {v : Value} {d : DataW H} {p : List MemPlace}
set_option maxRecDepth 100000 in
theorem open_spec (hv : Value.okWide Tryd.prog w r b0 28 v) (h : DataW.Trod enc Tryd.prog w 0 (fun _ => true) held 28 v d p) : ∃ a : Spv, v = a.val ∧ a.ok w := by
  obtain ⟨fuel, hf⟩ := h
  obtain ⟨cs, rfl⟩ : ∃ cs, v = .agg cs := by
    simp only [Value.okWide, Tryd.underlying28] at hv
    cases v <;> simp_all
  obtain ⟨a, e, hok⟩ := spec_of_trod hf
  refine ⟨a, ?_, hok⟩
  have e2 : cs = a.cells := Array.toList_inj.1 e
  rw [e2]
end
end Go.Proofs.YteoihdkaoipocaaDoor

/- (corveeref05.Fleet).Text of any row of nodes. Plain theorems: no condition. -/
namespace Go.Proofs.YteoihdkaoipocaaDoor
open Go.RowKit Go.Maps Go.Shelf

/-- a node's line, whatever the node -/
def lineA (v : Ndv) : List UInt8 := v.name.data.toList ++ [32] ++ txtV v.cap ++ tailP v.parts ++ [10]
def textA (vs : List Ndv) : List UInt8 := vs.flatMap lineA
theorem textA_app (a b : List Ndv) : textA (a ++ b) = textA a ++ textA b := by unfold textA; rw [List.flatMap_append]
theorem textA_step {vs : List Ndv} {k : Nat} {v : Ndv} (h : vs[k]? = some v) : textA (vs.take (k + 1)) = textA (vs.take k) ++ lineA v := by
  rw [take_step h, textA_app]
  simp [textA]
theorem textA_le (vs : List Ndv) (k : Nat) : (textA (vs.take k)).length ≤ (textA vs).length := by
  have h : textA vs = textA (vs.take k) ++ textA (vs.drop k) := by rw [← textA_app, List.take_append_drop]
  rw [h, List.length_append]
  omega
theorem tailP_le (ps : List ByteArray) (k : Nat) : (tailP (ps.take k)).length ≤ (tailP ps).length := by
  have h : tailP ps = tailP (ps.take k) ++ tailP (ps.drop k) := by
    unfold tailP
    rw [← List.flatMap_append, List.take_append_drop]
  rw [h, List.length_append]
  omega
/-- a node of an argument, its amounts numbers -/
structure NdB (w : World) (x : Nde) : Prop where
  a : NdA w x
  v : V64 x.cap
abbrev NdsB (w : World) (so : Option Addr) (n : Nat) (xs : List Nde) : Prop := RowsO Nde.cells 6 NdB w so n xs
theorem NdsB.low {w w' : World} {so : Option Addr} {n : Nat} {xs : List Nde} (h : NdsB w so n xs) (hb : Below w.heap.size w w') : NdsB w' so n xs :=
  ⟨h.len, h.max, fun i x hx => by
    obtain ⟨b, off, e, hlt, hc, ho⟩ := h.cell i x hx
    exact ⟨b, off, e, Nat.lt_of_lt_of_le hlt hb.size, fun j hj => (below_cell hb hlt).trans (hc j hj), ⟨⟨ho.a.ok.low hb, ho.a.name, ho.a.parts⟩, ho.v⟩⟩⟩
set_option maxRecDepth 100000 in
set_option maxHeartbeats 3200000 in
theorem rftextA_any {w : World} {ao : Option Addr} {n cp : Nat} {xs : List Nde} {vs : List Ndv} (hR : NdsB w ao n xs) (hvs : vs = xs.map Nde.pl) (hL0 : (textA vs).length ≤ 4611686018427387904) : Calls Tryd.prog 44 #[.agg #[.slice ao n cp]] w fun e w' => e = .returned (.string (ofL (textA vs))) ∧ Below w.heap.size w w' := by
  have hn : n = vs.length := by rw [hvs, List.length_map]; exact hR.len.symm
  have hnm := hR.max
  have hW0 : RxW w (.slice ao n cp) (w.alloc (.cells #[.slice ao n cp] 44 (0, 0))) := ⟨(Below.refl _ _).alloc (Nat.le_refl _) _, blk_new _ _⟩
  replace hR := Lib.hid hR; replace hn := Lib.hid hn; replace hW0 := Lib.hid hW0; replace hvs := Lib.hid hvs; replace hL0 := Lib.hid hL0
  go_enter Tryd.func44, Tryd.ntmps44
  go_wp2
  go_loopw [3, 4, 5, 6] (fun sv i _ _ wr => ∃ (k : Nat) (S : ByteArray), sv = .string S ∧ i = .int .i64 k ∧ k ≤ n ∧ Hid (S = ofL (textA (vs.take k))) ∧ Hid (RxW w (.slice ao n cp) wr)) (fun _ i _ _ _ => n - (intOf i).toNat)
  case atStart => exact ⟨0, { data := #[] }, rfl, rfl, Nat.zero_le _, rfl, hW0.out⟩
  case round =>
    obtain ⟨k, S, rfl, rfl, hk, hS, hM⟩ := hrel
    have f0 : wr.cell? ⟨w.heap.size, 0, none⟩ = some (.slice ao n cp) := blk_cell hM.out.box 0
    by_cases hc : k < n
    · have hc1 : (k : Int) < n := by omega
      have hk0 : (0 : Int) ≤ (k : Int) := by omega
      obtain ⟨y, hy⟩ : ∃ y, xs[k]? = some y := ⟨_, List.getElem?_eq_getElem (by have := hR.out.len; omega)⟩
      have hv : vs[k]? = some y.pl := by rw [hvs.out, List.getElem?_map, hy]; rfl
      have hRr := hR.out.low hM.out.low
      obtain ⟨g, off, rfl, hgl, hcell, hyB⟩ := hRr.cell k y hy
      obtain ⟨nm, ⟨ca, cb, cc, cd⟩, po, pn, pc, ps⟩ := y
      have hyok := hyB.a.ok
      have hpn : ps.length = pn := hyok.parts.len
      have z0 : wr.cell? ⟨g, off + k * 6, none⟩ = some (.string nm) := hcell 0 (by omega)
      have z1 : wr.cell? ⟨g, off + k * 6 + 1, none⟩ = some (.int .i64 ca) := hcell 1 (by omega)
      have z2 : wr.cell? ⟨g, off + k * 6 + 2, none⟩ = some (.int .i64 cb) := hcell 2 (by omega)
      have z3 : wr.cell? ⟨g, off + k * 6 + 3, none⟩ = some (.int .i64 cc) := hcell 3 (by omega)
      have z4 : wr.cell? ⟨g, off + k * 6 + 4, none⟩ = some (.int .i64 cd) := hcell 4 (by omega)
      have z5 : wr.cell? ⟨g, off + k * 6 + 5, none⟩ = some (.slice po pn pc) := hcell 5 (by omega)
      obtain ⟨W3, hW3⟩ : ∃ W3, W3 = wr.alloc (.cells (⟨nm, ⟨ca, cb, cc, cd⟩, po, pn, pc, ps⟩ : Nde).cells 48 (0, 0)) := ⟨_, rfl⟩
      have hlow3 : Below wr.heap.size wr W3 := by rw [hW3]; exact (Below.refl _ _).alloc (Nat.le_refl _) _
      have hx3 : W3.heap[wr.heap.size]? = some (.cells (⟨nm, ⟨ca, cb, cc, cd⟩, po, pn, pc, ps⟩ : Nde).cells 48 (0, 0)) := by rw [hW3]; exact blk_new _ _
      have hv64 : V64 ⟨ca, cb, cc, cd⟩ := hyB.v
      obtain ⟨A, hA⟩ : ∃ A, A = ofL (txtV ⟨ca, cb, cc, cd⟩) := ⟨_, rfl⟩
      have hst := textA_step hv
      have hTl : (textA (vs.take (k + 1))).length ≤ 4611686018427387904 := Nat.le_trans (textA_le vs (k + 1)) hL0.out
      have hsum : S.size + (nm.size + 1 + A.size) + (tailP ps).length + 1 ≤ 4611686018427387904 := by
        rw [hst] at hTl
        have h1 : nm.data.toList.length = nm.size := toL_len nm
        have h2 : lineA (⟨nm, ⟨ca, cb, cc, cd⟩, po, pn, pc, ps⟩ : Nde).pl = nm.data.toList ++ [32] ++ txtV ⟨ca, cb, cc, cd⟩ ++ tailP ps ++ [10] := rfl
        rw [h2] at hTl
        rw [hS.out, hA, ofL_size, ofL_size]
        simp only [List.length_append, List.length_cons, List.length_nil] at hTl
        omega
      have hc37 : ∀ W, Calls Tryd.prog 37 #[.agg #[.int .i64 ca, .int .i64 cb, .int .i64 cc, .int .i64 cd]] W fun e w' => e = .returned (.string A) ∧ Below W.heap.size W w' := fun W => by rw [hA]; exact rtext_any ⟨ca, cb, cc, cd⟩ hv64 W
      have q1 : ¬ 9223372036854775807 < nm.size + 1 := by omega
      have q2 : ¬ 9223372036854775807 < nm.size + 1 + A.size := by omega
      have q3 : ¬ 9223372036854775807 < S.size + (nm.size + 1 + A.size) := by omega
      have hSx : ∀ W' : World, Below W3.heap.size W3 W' → W'.cell? ⟨wr.heap.size, 0, none⟩ = some (.string nm) ∧ W'.cell? ⟨wr.heap.size, 1, none⟩ = some (.int .i64 ca) ∧ W'.cell? ⟨wr.heap.size, 2, none⟩ = some (.int .i64 cb) ∧ W'.cell? ⟨wr.heap.size, 3, none⟩ = some (.int .i64 cc) ∧ W'.cell? ⟨wr.heap.size, 4, none⟩ = some (.int .i64 cd) ∧ W'.cell? ⟨wr.heap.size, 5, none⟩ = some (.slice po pn pc) := fun W' hb => by
        have h := blk_below hb hx3 (blk_lt hx3)
        exact ⟨blk_cell h 0, blk_cell h 1, blk_cell h 2, blk_cell h 3, blk_cell h 4, blk_cell h 5⟩
      have hcur : Below W3.heap.size W3 W3.drew := (Below.refl _ _).drew
      obtain ⟨c0, c1, c2, c3, c4, c5⟩ := hSx W3 (Below.refl _ _)
      replace hy := Lib.hid hy; replace hv := Lib.hid hv; replace hRr := Lib.hid hRr; replace hcell := Lib.hid hcell; replace hyB := Lib.hid hyB; replace hyok := Lib.hid hyok; replace hpn := Lib.hid hpn; replace hlow3 := Lib.hid hlow3; replace hx3 := Lib.hid hx3; replace hv64 := Lib.hid hv64; replace hA := Lib.hid hA; replace hc37 := Lib.hid hc37; replace hSx := Lib.hid hSx; replace hcur := Lib.hid hcur; replace hst := Lib.hid hst; replace hTl := Lib.hid hTl; replace hsum := Lib.hid hsum
      have hW3' := Lib.hid hW3
      clear hW3
      go_upto_region 6 with fail
      rw [← hW3'.out]
      clear z0 z1 z2 z3 z4 z5 f0
      go_cut [3] (fun sv wx => RxS W3 (S ++ (nm ++ ({ data := #[32] } : ByteArray) ++ A)) sv wx)
      case first =>
        go_region_held3 (fun W' => W'.cell? ⟨wr.heap.size, 0, none⟩ = some (.string nm) ∧ W'.cell? ⟨wr.heap.size, 1, none⟩ = some (.int .i64 ca) ∧ W'.cell? ⟨wr.heap.size, 2, none⟩ = some (.int .i64 cb) ∧ W'.cell? ⟨wr.heap.size, 3, none⟩ = some (.int .i64 cc) ∧ W'.cell? ⟨wr.heap.size, 4, none⟩ = some (.int .i64 cd) ∧ W'.cell? ⟨wr.heap.size, 5, none⟩ = some (.slice po pn pc))
          (first
            | with_reducible exact hSx.out _ hcur.out)
          (first
            | (go_at_call 37
               (with_reducible refine (hc37.out _).mono ?_)
               rintro e wz ⟨rfl, hbz⟩
               replace hcur := Lib.hid (hcur.out.trans (hbz.mono hcur.out.size))
               replace hbz := Lib.hid hbz))
        all_goals
          go_wp2_with fail
          go_meet
          exact ⟨rfl, hcur.out⟩
      case rest =>
        obtain ⟨rfl, hlow5⟩ := hcut
        clear hcur c0 c1 c2 c3 c4 c5
        obtain ⟨_, _, _, _, _, c5⟩ := hSx.out wc hlow5
        have hP := ((hyok.out.low hlow3.out).low hlow5).parts
        have hP' : StrsAt wc po pn ps := hP
        obtain ⟨L, hL⟩ : ∃ L, L = textA (vs.take k) ++ nm.data.toList ++ [32] ++ txtV ⟨ca, cb, cc, cd⟩ := ⟨_, rfl⟩
        obtain ⟨S1, hS1⟩ : ∃ S1, S1 = S ++ (nm ++ ({ data := #[32] } : ByteArray) ++ A) := ⟨_, rfl⟩
        have hS1e : S1 = ofL L := by
          rw [hS1, hL, hS.out, hA.out, show ({ data := #[32] } : ByteArray) = ofL [32] from rfl]
          conv => lhs; rw [← ofL_self nm]
          rw [ofL_app, ofL_app, ofL_app]
          simp
        have hst2 : textA (vs.take (k + 1)) = L ++ tailP ps ++ [10] := by
          rw [hst.out, hL]
          show textA (vs.take k) ++ (nm.data.toList ++ [32] ++ txtV ⟨ca, cb, cc, cd⟩ ++ tailP ps ++ [10]) = _
          simp
        have hLl : L.length + (tailP ps).length + 1 ≤ 4611686018427387904 := by
          have h := hTl.out
          rw [hst2] at h
          simp only [List.length_append, List.length_cons, List.length_nil] at h
          omega
        have hpmx := hP'.max
        have hlowR : Below w.heap.size w wc := hM.out.low.trans ((hlow3.out.trans (hlow5.mono hlow3.out.size)).mono hM.out.low.size)
        have hboxR := blk_below hlow5 (blk_below hlow3.out hM.out.box (blk_lt hM.out.box)) (Nat.lt_of_lt_of_le (blk_lt hM.out.box) hlow3.out.size)
        rw [← hS1]
        replace hP := Lib.hid hP; replace hP' := Lib.hid hP'; replace hL := Lib.hid hL; replace hS1 := Lib.hid hS1; replace hS1e := Lib.hid hS1e; replace hLl := Lib.hid hLl; replace hst2 := Lib.hid hst2; replace hlowR := Lib.hid hlowR; replace hboxR := Lib.hid hboxR; replace hlow5 := Lib.hid hlow5
        go_wp2
        go_loop [3, 6] (fun sv m => ∃ (j : Nat) (Z : ByteArray), sv = .string Z ∧ m = .int .i64 j ∧ j ≤ pn ∧ Hid (Z = ofL (L ++ tailP (ps.take j)))) (fun _ m => pn - (intOf m).toNat)
        case atStart => exact ⟨0, S1, rfl, rfl, Nat.zero_le _, by rw [hS1e.out, List.take_zero]; exact congrArg ofL (List.append_nil L).symm⟩
        case round =>
          obtain ⟨j, Z, rfl, rfl, hj, hZ⟩ := hrel
          have htl : ∀ m, L.length + (tailP (ps.take m)).length + 1 ≤ 4611686018427387904 := fun m => by
            have h1 := tailP_le ps m
            have h2 := hLl.out
            omega
          have hZs : Z.size + 1 ≤ 4611686018427387904 := by
            have := htl j
            rw [hZ.out, ofL_size, List.length_append]
            omega
          by_cases hjc : j < pn
          · have hj1 : (j : Int) < pn := by omega
            have hj0 : (0 : Int) ≤ (j : Int) := by omega
            obtain ⟨p, hp⟩ := hP'.out.get hjc
            obtain ⟨b, off2, e, hbl, a0⟩ := hP'.out.cell j p hp
            subst e
            have hZ2 : Z ++ (({ data := #[32] } : ByteArray) ++ p) = ofL (L ++ tailP (ps.take (j + 1))) := by
              rw [hZ.out, tailP_step hp, show ({ data := #[32] } : ByteArray) = ofL [32] from rfl]
              conv => lhs; rw [← ofL_self p]
              rw [ofL_app, ofL_app]
              simp
            have hps : Z.size + (1 + p.size) + 1 ≤ 4611686018427387904 := by
              have h1 := htl (j + 1)
              rw [tailP_step hp] at h1
              have h2 : p.data.toList.length = p.size := toL_len p
              rw [hZ.out, ofL_size, List.length_append]
              simp only [List.length_append, List.length_cons] at h1
              omega
            have q1 : ¬ 9223372036854775807 < 1 + p.size := by omega
            have q2 : ¬ 9223372036854775807 < Z.size + (1 + p.size) := by omega
            replace hp := Lib.hid hp; replace hZ2 := Lib.hid hZ2; replace htl := Lib.hid htl; replace hps := Lib.hid hps
            go_wp2
            go_round
            case rel => exact ⟨j + 1, Z ++ (({ data := #[32] } : ByteArray) ++ p), rfl, by go_num, by omega, hZ2.out⟩
            case measure => simp [intOf]; omega
          · have hj1 : ¬ (j : Int) < pn := by omega
            have q1 : ¬ 9223372036854775807 < Z.size + 1 := by omega
            have hZ2 : Z ++ ({ data := #[10] } : ByteArray) = ofL (textA (vs.take (k + 1))) := by
              have := hZ.out
              rw [List.take_of_length_le (by have := hpn.out; omega)] at this
              rw [this, hst2.out, show ({ data := #[10] } : ByteArray) = ofL [10] from rfl, ofL_app]
            have hR2 : RxW w (.slice (some ⟨g, off, none⟩) n cp) wc := ⟨hlowR.out, hboxR.out⟩
            replace hZ2 := Lib.hid hZ2; replace hR2 := Lib.hid hR2; replace htl := Lib.hid htl
            go_wp2
            go_roundw
            case rel => exact ⟨k + 1, Z ++ ({ data := #[10] } : ByteArray), rfl, by go_num, by omega, hZ2.out, hR2.out⟩
            case measure => simp [intOf]; omega
    · have hc1 : ¬ (k : Int) < n := by omega
      have hkn : vs.take k = vs := List.take_of_length_le (by have := hn.out; omega)
      replace hkn := Lib.hid hkn
      go_wp2
      go_ret
      exact ⟨by rw [← hkn.out, ← hS.out]; rfl, hM.out.low⟩
end Go.Proofs.YteoihdkaoipocaaDoor

/- spec.Suits 45: does a spec fit a fleet at all? Plain theorems: no condition. -/
namespace Go.Proofs.YteoihdkaoipocaaDoor
open Go.RowKit Go.Maps Go.Shelf Go.Sort

/-- the amounts of the node at a place -/
def capAt (vs : List Ndv) (i : Int) : V4 := if i < 0 then V4.zero else ((vs[i.toNat]?).map Ndv.cap).getD V4.zero
theorem node_cap {vs : List Ndv} {i : Int} {w w' : World} {e : Ending} (h : NodeAt vs i w e w') : ∃ (x : Nde) (b : Bool), e = .returned (.tuple #[x.val, .bool b]) ∧ x.cap = capAt vs i ∧ Below w.heap.size w w' := by
  obtain ⟨x, b, he, _, hb, _, hc⟩ := h
  refine ⟨x, b, he, ?_, hb⟩
  unfold capAt
  rcases hc with ⟨_, h0, hv⟩ | ⟨_, rfl, hv⟩
  · rw [if_neg (by omega), hv]; rfl
  · split
    · rfl
    · rw [List.getElem?_eq_none (by omega)]; rfl
/-- how many of the places do -/
def suitN (vs : List Ndv) (d : V4) (l : List Int) : Nat := (l.filter fun i => d.fits (capAt vs i)).length
theorem suitN_step {vs : List Ndv} {d : V4} {l : List Int} {k : Nat} {y : Int} (h : l[k]? = some y) : suitN vs d (l.take (k + 1)) = suitN vs d (l.take k) + if d.fits (capAt vs y) = true then 1 else 0 := by
  unfold suitN
  rw [take_step h, List.filter_append, List.length_append]
  congr 1
  by_cases q : d.fits (capAt vs y) = true <;> simp [q]
theorem suitN_le (vs : List Ndv) (d : V4) (l : List Int) : suitN vs d l ≤ l.length := List.length_filter_le _ _
def suitS (s : Spp) (vs : List Ndv) : Int :=
  if mayS s = false then 80 else if inOf vs s.part = [] then 81 else if (suitN vs s.dem (inOf vs s.part) : Int) < s.nodes then 82 else 0
set_option maxRecDepth 100000 in
set_option maxHeartbeats 3200000 in
theorem suits_any {w : World} {fb mb base : Nat} {vs : List Ndv} (h : Flt w fb mb base vs) (hok : FltOk vs) (x : Spv) (hx : x.ok w) : Calls Tryd.prog 45 #[.pointer (some ⟨fb, 0, none⟩), x.val] w fun e w' => e = .returned (.int .i64 (suitS x.pl vs)) ∧ Below w.heap.size w w' := by
  have hB0 := BoxC.new w x
  have hck := check_any x (w.alloc (.cells x.cells 28 (0, 0))) (hx.low hB0.low)
  obtain ⟨er, her⟩ : ∃ er, er = errS x.pl := ⟨_, rfl⟩
  rw [← her] at hck
  have hec : (er = 0 ∧ mayS x.pl = true) ∨ (er = 80 ∧ mayS x.pl = false) := by
    rw [her]; unfold errS
    cases mayS x.pl <;> simp
  clear her
  have hfl := h.below hB0.low
  obtain ⟨⟨user, part, nodes, ⟨da, db, dc, dd⟩, wall, prio, array, retries, held, after⟩, so, n, cp⟩ := x
  have c0 := blk_cell hB0.box 0; have c1 := blk_cell hB0.box 1; have c2 := blk_cell hB0.box 2; have c3 := blk_cell hB0.box 3; have c4 := blk_cell hB0.box 4; have c5 := blk_cell hB0.box 5; have c6 := blk_cell hB0.box 6; have c7 := blk_cell hB0.box 7; have c8 := blk_cell hB0.box 8; have c9 := blk_cell hB0.box 9; have c10 := blk_cell hB0.box 10; have c11 := blk_cell hB0.box 11; have c12 := blk_cell hB0.box 12
  simp at c0 c1 c2 c3 c4 c5 c6 c7 c8 c9 c10 c11 c12
  replace hB0 := Lib.hid hB0; replace hck := Lib.hid hck; replace hfl := Lib.hid hfl; replace h := Lib.hid h; replace hok := Lib.hid hok; replace hx := Lib.hid hx; replace hec := Lib.hid hec
  go_enter Tryd.func45, Tryd.ntmps45
  go_wp2_with fail
  refine hck.out.mono ?_
  rintro e w1 ⟨rfl, hb1⟩
  have hB1 := hB0.out.below hb1
  have hf1 := hfl.out.below hb1
  clear c0 c1 c2 c3 c4 c5 c6 c7 c8 c9 c10 c11 c12
  rcases hec.out with ⟨rfl, hms⟩ | ⟨rfl, hms⟩
  rotate_left
  · replace hb1 := Lib.hid hb1; replace hB1 := Lib.hid hB1; replace hf1 := Lib.hid hf1; replace hms := Lib.hid hms
    clear hec
    go_wp2
    go_ret
    exact ⟨by unfold suitS; rw [if_pos hms.out]; rfl, hB1.out.low⟩
  have y1 : w1.cell? ⟨w.heap.size, 1, none⟩ = some (.string part) := blk_cell hB1.box 1
  have hin := in_flt hf1 hok.out part
  clear hec
  replace hb1 := Lib.hid hb1; replace hB1 := Lib.hid hB1; replace hf1 := Lib.hid hf1; replace hms := Lib.hid hms; replace hin := Lib.hid hin
  go_wp2_with fail
  refine hin.out.mono ?_
  rintro e w2 ⟨v2, rfl, hO2, hb2⟩
  obtain ⟨po, pn, pc, rfl, hpc, hI2, hfr2⟩ := ownI_form hO2
  have hB2 := hB1.out.below hb2
  have hf2 := hf1.out.below hb2
  have hpl : (inOf vs part).length = pn := hI2.len
  have hpn : pn ≤ 16 := by have h1 := inFrom_len vs part 0; have h2 := hok.out.len; unfold inOf at hpl; omega
  by_cases q0 : pn = 0
  · subst q0
    replace hO2 := Lib.hid hO2; replace hb2 := Lib.hid hb2; replace hI2 := Lib.hid hI2; replace hfr2 := Lib.hid hfr2; replace hB2 := Lib.hid hB2; replace hf2 := Lib.hid hf2; replace hpl := Lib.hid hpl
    clear y1
    go_wp2
    go_ret
    exact ⟨by unfold suitS; rw [if_neg (by rw [hms.out]; simp), if_pos (List.length_eq_zero_iff.1 hpl.out)]; rfl, hB2.out.low⟩
  have q0' : ((pn : Int) == 0) = false := by rw [beq_eq_false_iff_ne]; omega
  clear y1
  replace hO2 := Lib.hid hO2; replace hb2 := Lib.hid hb2; replace hI2 := Lib.hid hI2; replace hfr2 := Lib.hid hfr2; replace hB2 := Lib.hid hB2; replace hf2 := Lib.hid hf2; replace hpl := Lib.hid hpl; replace q0 := Lib.hid q0
  go_wp2
  go_loopw [7, 9, 10, 11, 26] (fun m _ _ _ i wr => ∃ k : Nat, i = .int .i64 k ∧ k ≤ pn ∧ m = .int .i64 (suitN vs ⟨da, db, dc, dd⟩ ((inOf vs part).take k) : Nat) ∧ Hid (Below w2.heap.size w2 wr)) (fun _ _ _ _ i _ => pn - (intOf i).toNat)
  case atStart => exact ⟨0, rfl, Nat.zero_le _, rfl, Below.refl _ _⟩
  case round =>
    obtain ⟨k, rfl, hk, rfl, hB⟩ := hrel
    obtain ⟨z, hz⟩ : ∃ z, z = suitN vs ⟨da, db, dc, dd⟩ ((inOf vs part).take k) := ⟨_, rfl⟩
    rw [← hz]
    have hzl : z ≤ 16 := by
      have h1 := suitN_le vs ⟨da, db, dc, dd⟩ ((inOf vs part).take k)
      have h2 := List.length_take_le k (inOf vs part)
      omega
    have hBw := hB2.out.below hB.out
    have hfw := hf2.out.below hB.out
    by_cases hc : k < pn
    · have hc1 : (k : Int) < pn := by omega
      have hk0 : (0 : Int) ≤ (k : Int) := by omega
      obtain ⟨y, hy⟩ : ∃ y, (inOf vs part)[k]? = some y := ⟨_, List.getElem?_eq_getElem (by have := hpl.out; omega)⟩
      obtain ⟨b, off, rfl, hb, hcell⟩ := (hI2.out.low hB.out).cell k y hy
      have hnd := node_at hfw hok.out y
      have hst := suitN_step (vs := vs) (d := ⟨da, db, dc, dd⟩) hy
      rw [← hz] at hst
      have hwrap : IntKind.i64.wrap ((z : Int) + 1) = (z : Int) + 1 := IntWalk.i64_in _ (by omega)
      replace hy := Lib.hid hy; replace hnd := Lib.hid hnd; replace hst := Lib.hid hst; replace hBw := Lib.hid hBw; replace hfw := Lib.hid hfw; replace hz := Lib.hid hz
      go_wp2_with fail
      refine hnd.out.mono ?_
      intro e w3 hN
      obtain ⟨⟨nm, ⟨ca, cb, cc, cd⟩, qo, qn, qc, qs⟩, b3, rfl, hcap, hb3⟩ := node_cap hN
      clear hN
      replace hcap := Lib.hid hcap; replace hb3 := Lib.hid hb3
      go_upto_region 12 with fail
      obtain ⟨nb, hnb⟩ : ∃ nb, nb = w3.heap.size := ⟨_, rfl⟩
      obtain ⟨W4, hW4⟩ : ∃ W4, W4 = w3.alloc (.cells (⟨nm, ⟨ca, cb, cc, cd⟩, qo, qn, qc, qs⟩ : Nde).cells 48 (0, 0)) := ⟨_, rfl⟩
      have hb4 : Below w3.heap.size w3 W4 := by rw [hW4]; exact (Below.refl _ _).alloc (Nat.le_refl _) _
      have hn4 : W4.heap[nb]? = some (.cells (⟨nm, ⟨ca, cb, cc, cd⟩, qo, qn, qc, qs⟩ : Nde).cells 48 (0, 0)) := by rw [hW4, hnb]; exact blk_new _ _
      rw [← hW4, ← hnb]
      have hB4 := (hBw.out.below hb3.out).below hb4
      have hl4 : Below w2.heap.size w2 W4 := (hB.out.trans (hb3.out.mono hB.out.size)).trans (hb4.mono (hB.out.trans (hb3.out.mono hB.out.size)).size)
      clear hW4 hnb
      have y3 : W4.cell? ⟨w.heap.size, 3, none⟩ = some (.int .i64 da) := blk_cell hB4.box 3
      have y4 : W4.cell? ⟨w.heap.size, 4, none⟩ = some (.int .i64 db) := blk_cell hB4.box 4
      have y5 : W4.cell? ⟨w.heap.size, 5, none⟩ = some (.int .i64 dc) := blk_cell hB4.box 5
      have y6 : W4.cell? ⟨w.heap.size, 6, none⟩ = some (.int .i64 dd) := blk_cell hB4.box 6
      have n1 : W4.cell? ⟨nb, 1, none⟩ = some (.int .i64 ca) := blk_cell hn4 1
      have n2 : W4.cell? ⟨nb, 2, none⟩ = some (.int .i64 cb) := blk_cell hn4 2
      have n3 : W4.cell? ⟨nb, 3, none⟩ = some (.int .i64 cc) := blk_cell hn4 3
      have n4 : W4.cell? ⟨nb, 4, none⟩ = some (.int .i64 cd) := blk_cell hn4 4
      have hft := fits_any ⟨da, db, dc, dd⟩ ⟨ca, cb, cc, cd⟩ W4
      obtain ⟨q, hq⟩ : ∃ q, q = V4.fits ⟨da, db, dc, dd⟩ ⟨ca, cb, cc, cd⟩ := ⟨_, rfl⟩
      rw [← hq] at hft
      have hst2 := hst.out
      rw [show capAt vs y = ⟨ca, cb, cc, cd⟩ from hcap.out.symm, ← hq] at hst2
      clear hq hst hcap hcell
      replace hb4 := Lib.hid hb4; replace hn4 := Lib.hid hn4; replace hB4 := Lib.hid hB4; replace hl4 := Lib.hid hl4; replace hft := Lib.hid hft; replace hst2 := Lib.hid hst2
      go_wp2_with fail
      refine hft.out.mono ?_
      rintro e w5 ⟨rfl, hb5⟩
      have hl5 := hl4.out.trans (hb5.mono hl4.out.size)
      clear y3 y4 y5 y6 n1 n2 n3 n4
      replace hb5 := Lib.hid hb5; replace hl5 := Lib.hid hl5
      cases q with
      | true =>
        go_wp2
        go_roundw
        case rel => exact ⟨k + 1, by go_num, by omega, by rw [hst2.out]; first | rfl | simp, hl5.out⟩
        case measure => simp [intOf]; omega
      | false =>
        go_wp2
        go_roundw
        case rel => exact ⟨k + 1, by go_num, by omega, by rw [hst2.out]; first | rfl | simp, hl5.out⟩
        case measure => simp [intOf]; omega
    · have hc1 : ¬ (k : Int) < pn := by omega
      have hkn : k = pn := by omega
      have hzf : z = suitN vs ⟨da, db, dc, dd⟩ (inOf vs part) := by rw [hz, hkn, ← hpl.out, List.take_length]
      have y2 : wr.cell? ⟨w.heap.size, 2, none⟩ = some (.int .i64 nodes) := blk_cell hBw.box 2
      have hqe : inOf vs part ≠ [] := fun c => by have := hpl.out; rw [c] at this; exact q0.out this.symm
      clear hz hkn
      by_cases q3 : (z : Int) < nodes
      · replace hBw := Lib.hid hBw; replace hfw := Lib.hid hfw; replace hzf := Lib.hid hzf; replace hqe := Lib.hid hqe
        go_wp2
        go_ret
        exact ⟨by unfold suitS; rw [if_neg (by rw [hms.out]; simp), if_neg hqe.out, if_pos (by rw [← hzf.out]; exact q3)]; rfl, hBw.out.low⟩
      · replace hBw := Lib.hid hBw; replace hfw := Lib.hid hfw; replace hzf := Lib.hid hzf; replace hqe := Lib.hid hqe
        go_wp2
        go_ret
        exact ⟨by unfold suitS; rw [if_neg (by rw [hms.out]; simp), if_neg hqe.out, if_neg (by rw [← hzf.out]; exact Int.not_lt.2 q3)]; rfl, hBw.out.low⟩
end Go.Proofs.YteoihdkaoipocaaDoor

/- What fits a fleet fits one with more nodes: plain. -/
namespace Go.Proofs.YteoihdkaoipocaaDoor
open Go.RowKit

theorem cutAll_app (x : UInt8) (a b : List UInt8) : cutAll x (a ++ x :: b) = cutAll x a ++ cutAll x b := by
  induction a with
  | nil => simp [cutAll]
  | cons c a ih =>
    have e1 : cutAll x (c :: a ++ x :: b) = if c = x then [] :: cutAll x (a ++ x :: b) else (c :: (cutAll x (a ++ x :: b)).headD []) :: (cutAll x (a ++ x :: b)).tail := rfl
    have e2 : cutAll x (c :: a) = if c = x then [] :: cutAll x a else (c :: (cutAll x a).headD []) :: (cutAll x a).tail := rfl
    rw [e1, e2, ih]
    by_cases q : c = x
    · rw [if_pos q, if_pos q]; rfl
    · rw [if_neg q, if_neg q]
      cases h : cutAll x a with
      | nil => exact absurd h (cutAll_ne x a)
      | cons y ys => rfl
/-- the nodes of pieces -/
def pieceN (p : List UInt8) : Option Ndv := if saysB p = true then nodeOf (ofL p) else none
def nodesT (t : List UInt8) : List Ndv := (cutAll 10 t).filterMap pieceN
theorem said_nodes : ∀ (n : Nat) (ps : List (List UInt8)), (said n ps).filterMap (fun x => nodeOf x.2) = ps.filterMap pieceN
  | _, [] => rfl
  | n, p :: ps => by
    rw [List.filterMap_cons]
    simp only [said]
    by_cases h : saysB p = true
    · rw [if_pos h, List.filterMap_cons, said_nodes (n + 1) ps]
      simp only [pieceN, if_pos h]
    · rw [if_neg h, said_nodes (n + 1) ps]
      simp only [pieceN, if_neg h]
theorem readTo_ok : ∀ (ls : List (Int × ByteArray)) (xs : List Ndv), (readTo xs ls).2.1 = 0 → (readTo xs ls).1 = xs ++ ls.filterMap (fun x => nodeOf x.2)
  | [], xs, _ => by simp [readTo]
  | (i, l) :: ls, xs, h => by
    simp only [readTo] at h ⊢
    cases hn : nodeOf l with
    | none => rw [hn] at h; simp at h
    | some v =>
      rw [hn] at h
      simp only at h ⊢
      by_cases c : putE (xs.map Ndv.name) xs.length v.name v.parts = 0
      · rw [if_pos c] at h ⊢
        rw [readTo_ok ls _ h, List.filterMap_cons]
        simp [hn]
      · rw [if_neg c] at h
        exact absurd h c
theorem readOf_nodes {t : List UInt8} (h : (readOf (ofL t)).2.1 = 0) : (readOf (ofL t)).1 = nodesT t := by
  unfold readOf at h ⊢
  by_cases c : 4096 < (ofL t).size
  · rw [if_pos c] at h; exact absurd h (by decide)
  · rw [if_neg c] at h ⊢
    unfold linesOf at h ⊢
    rw [readTo_ok _ _ h, said_nodes, ofL_toL]
    rfl
theorem nodesT_app (a b : List UInt8) : nodesT (a ++ 10 :: b) = nodesT a ++ nodesT b := by
  unfold nodesT
  rw [cutAll_app, List.filterMap_append]
theorem nodesT_text : ∀ (vs : List Ndv), nodesT (textA vs) = vs.flatMap fun v => nodesT (bodyV v)
  | [] => rfl
  | v :: vs => by
    have e : textA (v :: vs) = bodyV v ++ 10 :: textA vs := by
      unfold textA
      rw [List.flatMap_cons]
      show (v.name.data.toList ++ [32] ++ txtV v.cap ++ tailP v.parts ++ [10]) ++ _ = (v.name.data.toList ++ [32] ++ txtV v.cap ++ tailP v.parts) ++ _
      simp
    rw [e, nodesT_app, nodesT_text vs, List.flatMap_cons]
theorem flatMap_sub {α β : Type} (g : α → List β) {a b : List α} (h : a.Sublist b) : (a.flatMap g).Sublist (b.flatMap g) := by
  induction h with
  | slnil => exact List.Sublist.refl _
  | cons x _ ih => rw [List.flatMap_cons]; exact ih.trans (List.sublist_append_right _ _)
  | cons_cons x _ ih => rw [List.flatMap_cons, List.flatMap_cons]; exact (List.Sublist.refl _).append ih
theorem less_sub {α : Type} (l : List α) (k : Nat) : (l.take k ++ l.drop (k + 1)).Sublist l := by
  have h : l = l.take k ++ l.drop k := (List.take_append_drop k l).symm
  conv => rhs; rw [h]
  refine (List.Sublist.refl _).append ?_
  rw [← List.drop_drop]
  exact List.drop_sublist _ _
theorem readOf_less {vs : List Ndv} {k : Nat} (h1 : (readOf (ofL (textA vs))).2.1 = 0) (h2 : (readOf (ofL (textA (vs.take k ++ vs.drop (k + 1))))).2.1 = 0) :
    ((readOf (ofL (textA (vs.take k ++ vs.drop (k + 1))))).1).Sublist (readOf (ofL (textA vs))).1 := by
  rw [readOf_nodes h1, readOf_nodes h2, nodesT_text, nodesT_text]
  exact flatMap_sub _ (less_sub vs k)

/-- how many nodes of a part have so much -/
def cntN (vs : List Ndv) (d : V4) (p : ByteArray) : Nat := (vs.filter fun v => memB v.parts p && d.fits v.cap).length
theorem suitN_from (d : V4) (p : ByteArray) : ∀ (vs pre : List Ndv), suitN (pre ++ vs) d (inFrom pre.length vs p) = cntN vs d p
  | [], pre => rfl
  | v :: vs, pre => by
    have ih := suitN_from d p vs (pre ++ [v])
    rw [List.append_assoc, List.length_append] at ih
    have ih' : suitN (pre ++ v :: vs) d (inFrom (pre.length + 1) vs p) = cntN vs d p := ih
    have hc : capAt (pre ++ v :: vs) (pre.length : Int) = v.cap := by
      unfold capAt
      rw [if_neg (by omega), Int.toNat_natCast, List.getElem?_append_right (Nat.le_refl _), Nat.sub_self]
      rfl
    simp only [inFrom]
    unfold cntN
    rw [List.filter_cons]
    by_cases hm : memB v.parts p = true
    · rw [if_pos hm]
      unfold suitN
      rw [List.filter_cons, hc]
      by_cases hf : d.fits v.cap = true
      · rw [if_pos hf, if_pos (by rw [hm, hf]; rfl), List.length_cons, List.length_cons]
        exact congrArg (· + 1) ih'
      · rw [if_neg hf, if_neg (by rw [hm]; simpa using hf)]
        exact ih'
    · rw [if_neg hm, if_neg (by simp only [Bool.and_eq_true]; exact fun c => hm c.1)]
      exact ih'
theorem suitN_cnt (d : V4) (p : ByteArray) (vs : List Ndv) : suitN vs d (inOf vs p) = cntN vs d p := suitN_from d p vs []
theorem cntN_sub {g f : List Ndv} (h : g.Sublist f) (d : V4) (p : ByteArray) : cntN g d p ≤ cntN f d p := (h.filter _).length_le
theorem may_nodes {s : Spp} (h : mayS s = true) : 1 ≤ s.nodes := by
  simp only [mayS, Bool.and_eq_true, betw, decide_eq_true_eq] at h
  omega
/-- what fits a fleet fits one with more nodes -/
theorem suit_mono {s : Spp} {g f : List Ndv} (h : g.Sublist f) (hs : suitS s g = 0) : suitS s f = 0 := by
  unfold suitS at hs ⊢
  cases hm : mayS s with
  | false => rw [hm, if_pos rfl] at hs; exact absurd hs (by decide)
  | true =>
    rw [hm, if_neg (by simp)] at hs
    rw [if_neg (by simp)]
    by_cases e : inOf g s.part = []
    · rw [if_pos e] at hs; exact absurd hs (by decide)
    · rw [if_neg e] at hs
      by_cases q : (suitN g s.dem (inOf g s.part) : Int) < s.nodes
      · rw [if_pos q] at hs; exact absurd hs (by decide)
      · have h1 := may_nodes hm
        have h2 := cntN_sub h s.dem s.part
        rw [← suitN_cnt, ← suitN_cnt] at h2
        have h3 := suitN_le f s.dem (inOf f s.part)
        rw [if_neg (fun c => by have h4 : (inOf f s.part).length = 0 := (by rw [c]; rfl); omega), if_neg (by omega)]
theorem suit_cases (s : Spp) (vs : List Ndv) : suitS s vs = 80 ∨ suitS s vs = 81 ∨ suitS s vs = 82 ∨ suitS s vs = 0 := by
  unfold suitS
  split
  · exact .inl rfl
  · split
    · exact .inr (.inl rfl)
    · split
      · exact .inr (.inr (.inl rfl))
      · exact .inr (.inr (.inr rfl))
end Go.Proofs.YteoihdkaoipocaaDoor

/- A row of nodes as an argument, with its bulk. Plain theorems: no condition. -/
namespace Go.Proofs.YteoihdkaoipocaaDoor
open Go.ChangeShapes Go.WideShapes Go.ChangeAt Go.RowKit

def wtS (p : ByteArray) : Nat := p.size + 1
def wtN (x : Nde) : Nat := x.name.size + 1 + (x.parts.map wtS).sum
theorem tailP_wt : ∀ (ps : List ByteArray), (tailP ps).length = (ps.map wtS).sum
  | [] => rfl
  | p :: ps => by
    have h := tailP_wt ps
    have h1 : p.data.toList.length = p.size := toL_len p
    unfold tailP at h ⊢
    rw [List.flatMap_cons, List.length_append, h, List.map_cons, List.sum_cons, List.length_cons, h1]
    rfl
theorem lineA_wt {x : Nde} (hv : V64 x.cap) : (lineA x.pl).length ≤ 85 + wtN x := by
  have h1 : x.name.data.toList.length = x.name.size := toL_len x.name
  have h2 := txtV_len hv
  have h3 := tailP_wt x.parts
  have e : lineA x.pl = x.name.data.toList ++ [32] ++ txtV x.cap ++ tailP x.parts ++ [10] := rfl
  rw [e]
  unfold wtN
  simp only [List.length_append, List.length_cons, List.length_nil]
  omega
theorem textA_wt : ∀ (xs : List Nde), (∀ x, x ∈ xs → V64 x.cap) → (textA (xs.map Nde.pl)).length ≤ xs.length * 85 + (xs.map wtN).sum
  | [], _ => by simp [textA]
  | x :: xs, h => by
    have h1 := textA_wt xs fun y hy => h y (by simp [hy])
    have h2 := lineA_wt (h x (by simp))
    unfold textA at h1 ⊢
    rw [List.map_cons, List.flatMap_cons, List.length_append, List.map_cons, List.sum_cons, List.length_cons, Nat.add_mul]
    omega
theorem len_wt : ∀ (xs : List Nde), xs.length ≤ (xs.map wtN).sum
  | [] => by simp
  | x :: xs => by
    have h := len_wt xs
    have h1 : 1 ≤ wtN x := by unfold wtN; omega
    rw [List.length_cons, List.map_cons, List.sum_cons]
    omega
section
variable {H : Type} {enc : TypeId × Value → H} {w : World} {held : Bool} {fuel : Nat} {cs : List Value} {x : DataW H × List MemPlace}
theorem bulk_map (D : Nat → DataW H) (wt : Nat → Nat) : ∀ (l : List Nat), (∀ i, i ∈ l → wt i ≤ Rows.uptoBulk (D i)) → (l.map wt).sum ≤ Rows.uptoBulkAll (l.map D)
  | [], _ => by simp
  | i :: l, h => by
    have h1 := h i (by simp)
    have h2 := bulk_map D wt l fun j hj => h j (by simp [hj])
    simp only [List.map_cons, List.sum_cons, Rows.uptoBulkAll]
    omega
theorem rowsW_of_trod {α : Type} (z : α) (cells : α → Array Value) (sz : Nat) (ok : World → α → Prop) (wt : α → Nat) {T E : TypeId} (hU : Tryd.prog.underlying T = some (.slice E)) (hc : Tryd.prog.cellsOf E = sz) (h0 : 0 < sz) (hsz : ∀ a, (cells a).size = sz)
    (hone : ∀ (fuel : Nat) (cs : List Value) (x : DataW H × List MemPlace), DataW.trod enc Tryd.prog w 0 (fun _ => true) held fuel E cs = some x → ∃ a, cs = (cells a).toList ∧ ok w a ∧ wt a ≤ Rows.uptoBulk x.1)
    {c : Value} (h : DataW.trod enc Tryd.prog w 0 (fun _ => true) held fuel T [c] = some x) : ∃ ao n cp xs, c = .slice ao n cp ∧ RowsO cells sz ok w ao n xs ∧ n ≤ cp ∧ (xs.map wt).sum ≤ Rows.uptoBulk x.1 := by
  rcases Go.Deep.open_slice hU h with ⟨hcs, rfl⟩ | ⟨a, len, cap, m, n, D, Pl, hcs, _, hl, hm, hmm, rfl, hi⟩
  · simp at hcs
    exact ⟨none, 0, 0, [], hcs, ⟨rfl, by omega, fun i x hx => by simp at hx⟩, Nat.le_refl _, by simp⟩
  · simp at hcs
    have mx : maxLen = 9223372036854775807 := by kernel_rfl
    have hmc : m = cap := by simpa using hmm
    have hc : ∀ i, i < len → ∃ x : α, ok w x ∧ wt x ≤ Rows.uptoBulk (D i) ∧ ∀ j, j < sz → w.cell? (a.add (i * sz + j)) = (cells x)[j]? := fun i hil => by
      obtain ⟨cs', hc', ht⟩ := hi i (by omega)
      obtain ⟨x, rfl, ok, hw⟩ := hone _ _ _ ht
      obtain ⟨_, _, hat⟩ := World.cells?_some hc'
      rw [hc] at hat
      exact ⟨x, ok, hw, fun j hj => by rw [← Go.Deep.add_add, hat j hj]; simp⟩
    obtain ⟨f, hf2⟩ := choose_belowo z hc
    refine ⟨some a, len, cap, (List.range len).map f, hcs, ⟨by simp, by rw [mx] at hm; omega, fun i x hx => ?_⟩, hl, ?_⟩
    · have hil : i < len := by
        have := (List.getElem?_eq_some_iff.1 hx).1
        simpa using this
      have hxe : x = f i := by
        rw [List.getElem?_map, List.getElem?_range hil] at hx
        simpa using hx.symm
      subst hxe
      have hz : ∀ i, i < len → (cells (f i))[0]? = some ((cells (f i))[0]'(by rw [hsz]; exact h0)) := fun i _ => by
        rw [Array.getElem?_eq_getElem]
      have h00 := (hf2 0 (by omega)).2.2 0 h0
      rw [hz 0 (by omega)] at h00
      obtain ⟨b, off, spot⟩ := a
      have hsp : spot = none := by simpa [Addr.add] using World.cell?_spot h00
      subst hsp
      have e : ∀ j, j < sz → w.cell? ⟨b, off + i * sz + j, none⟩ = (cells (f i))[j]? := fun j hj => by
        rw [← (hf2 i hil).2.2 j hj, add_plain_o, Nat.add_assoc]
      have e0 := e 0 h0
      rw [hz i hil] at e0
      exact ⟨b, off, rfl, World.block_lt_of_cell? w _ e0, e, (hf2 i hil).1⟩
    · have hb := bulk_map D (fun i => wt (f i)) (List.range len) fun i hi => (hf2 i (List.mem_range.1 hi)).2.1
      simp only [Rows.uptoBulk, List.map_map]
      have e : (List.map (wt ∘ f) (List.range len)).sum = ((List.range len).map fun i => wt (f i)).sum := rfl
      omega
theorem strsW_of_trod {c : Value} (h : DataW.trod enc Tryd.prog w 0 (fun _ => true) held fuel 36 [c] = some x) : ∃ ao n cp xs, c = .slice ao n cp ∧ StrsAt w ao n xs ∧ (∀ p, p ∈ xs → p.size ≤ maxLen) ∧ n ≤ cp ∧ (xs.map wtS).sum ≤ Rows.uptoBulk x.1 := by
  obtain ⟨ao, n, cp, xs, e, hr, hn, hw⟩ := rowsW_of_trod ByteArray.empty (fun s => #[.string s]) 1 (fun _ s => s.size ≤ maxLen) wtS Tryd.underlying36 cel9 (by decide) (fun _ => rfl) (fun fuel cs x h => by
    obtain ⟨s, e, rfl, hs⟩ := DataW.trod_string Tryd.underlying9 h
    refine ⟨s, e, hs, ?_⟩
    have h1 : s.data.toList.length = s.size := toL_len s
    simp only [Rows.uptoBulk, wtS]
    omega) h
  refine ⟨ao, n, cp, xs, e, ⟨hr.len, hr.max, fun i x hx => ?_⟩, fun p hp => ?_, hn, hw⟩
  · obtain ⟨b, off, e, hlt, hc, _⟩ := hr.cell i x hx
    have := hc 0 (by omega)
    rw [Nat.mul_one, Nat.add_zero] at this
    exact ⟨b, off, e, hlt, this⟩
  · obtain ⟨i, hi⟩ := List.mem_iff_getElem?.1 hp
    obtain ⟨_, _, _, _, _, h⟩ := hr.cell i p hi
    exact h
theorem vecB_of_trod (h : DataW.trod enc Tryd.prog w 0 (fun _ => true) held fuel 25 cs = some x) : ∃ v : V4, cs = v.cells.toList ∧ V64 v := by
  obtain ⟨xs, m, _, _, hl, hn, hi⟩ := DataW.trod_array Tryd.underlying25 h
  rw [cel25] at hl
  obtain ⟨c0, c1, c2, c3, rfl⟩ := list4o hl
  have one : ∀ i, i < 4 → ∀ c : Value, (([c0, c1, c2, c3].drop (i * Tryd.prog.cellsOf 3)).take (Tryd.prog.cellsOf 3)) = [c] → ∃ n, c = .int .i64 n ∧ (-9223372036854775808 ≤ n ∧ n ≤ 9223372036854775807) := fun i h4 c hc => by
    have h1 := hi i h4
    rw [hc, List.getElem?_eq_getElem (by omega)] at h1
    obtain ⟨n, e, _, hw⟩ := DataW.trod_int Tryd.underlying3 h1
    exact ⟨n, by simpa using e, wf_bd hw⟩
  obtain ⟨n0, rfl, b0⟩ := one 0 (by omega) c0 (by simp [cel3])
  obtain ⟨n1, rfl, b1⟩ := one 1 (by omega) c1 (by simp [cel3])
  obtain ⟨n2, rfl, b2⟩ := one 2 (by omega) c2 (by simp [cel3])
  obtain ⟨n3, rfl, b3⟩ := one 3 (by omega) c3 (by simp [cel3])
  exact ⟨⟨n0, n1, n2, n3⟩, rfl, ⟨b0, b1, b2, b3⟩⟩
theorem nodeB_of_trod (h : DataW.trod enc Tryd.prog w 0 (fun _ => true) held fuel 48 cs = some x) : ∃ a : Nde, cs = a.cells.toList ∧ NdB w a ∧ wtN a ≤ Rows.uptoBulk x.1 := by
  obtain ⟨xs, n, _, rfl, hl, hlen, hf⟩ := DataW.trod_struct Tryd.underlying48 h
  rw [cel48] at hl
  obtain ⟨c0, c1, c2, c3, c4, c5, rfl⟩ := list6o hl
  match xs, hlen with
  | [y0, y1, y2], _ =>
    have h0 := hf 0 _ rfl; have h1 := hf 1 _ rfl; have h2 := hf 2 _ rfl
    simp [cel9, cel25, cel36] at h0 h1 h2
    obtain ⟨s, e0, rfl, hs⟩ := DataW.trod_string Tryd.underlying9 h0
    obtain ⟨v, ev, hv⟩ := vecB_of_trod h1
    obtain ⟨po, pn, pc, ps, rfl, hp, hps, hpc, hw⟩ := strsW_of_trod h2
    simp at e0 ev
    obtain ⟨rfl, rfl, rfl, rfl⟩ := ev
    subst e0
    refine ⟨⟨s, v, po, pn, pc, ps⟩, rfl, ⟨⟨⟨hp, hpc⟩, hs, hps⟩, hv⟩, ?_⟩
    have h1 : s.data.toList.length = s.size := toL_len s
    simp only [List.map_cons, List.map_nil, Rows.uptoBulk, Rows.uptoBulkAll, wtN]
    omega
end
section
variable {H : Type} {enc : TypeId × Value → H} {w : World} {held : Bool} {b0 : Nat} {r : Reach} {v : Value} {d : DataW H} {p : List MemPlace}
set_option maxRecDepth 100000 in
theorem open_nodesB (hv : Value.okWide Tryd.prog w r b0 42 v) (h : DataW.Trod enc Tryd.prog w 0 (fun _ => true) held 42 v d p) : ∃ ao n cp xs, v = .slice ao n cp ∧ NdsB w ao n xs ∧ n ≤ cp ∧ (xs.map wtN).sum ≤ Rows.uptoBulk d := by
  obtain ⟨fuel, hf⟩ := h
  have hvc : v.cells.toList = [v] := by
    simp only [Value.okWide, Tryd.underlying42, Cell.okWide] at hv
    cases v <;> simp_all [Value.cells, Cell.ok]
  rw [hvc] at hf
  obtain ⟨ao, n, cp, xs, e, hr, hn, hw⟩ := rowsW_of_trod Nde.zero Nde.cells 6 NdB wtN Tryd.underlying42 cel48 (by decide) (fun _ => rfl) (fun _ _ _ h => nodeB_of_trod h) hf
  exact ⟨ao, n, cp, xs, e, hr, hn, hw⟩
end
end Go.Proofs.YteoihdkaoipocaaDoor

/- corveelaw08.SpecSmaller: what fits a fleet fits one with more nodes. Plain theorems: no condition. -/
namespace Go.Proofs.YteoihdkaoipocaaDoor
open Go.RowKit Go.Maps Go.Shelf Go.Sort

structure SlT (t : Int) (W : World) (tv : Value) (wx : World) : Prop where
  t : tv = .int .i64 t
  w : W = wx
theorem info48s : (Tryd.prog.info? 48).map (fun i => (i.zero, i.size, i.bytes)) = some (some Nde.zero.val, 6, 72) := by kernel_rfl
/-- a row of nodes of one's own -/
structure OwnN (w : World) (B : Nat) (v : Value) (xs : List Nde) : Prop where
  row : w.ownsRow B 48 6 v xs.length (flatv Nde.cells xs)
theorem flatv_len {α : Type} {cells : α → Array Value} {sz : Nat} (hsz : ∀ x, (cells x).size = sz) : ∀ (xs : List α), (flatv cells xs).length = xs.length * sz
  | [] => by simp [flatv]
  | x :: xs => by
    have h := flatv_len hsz xs
    unfold flatv at h ⊢
    rw [List.flatMap_cons, List.length_append, h, List.length_cons, Nat.add_mul, Array.length_toList, hsz]
    omega
theorem flatv_news {α : Type} {cells : α → Array Value} {sz : Nat} (hsz : ∀ x, (cells x).size = sz) (h0 : 0 < sz) {w : World} {b off : Nat} {xs : List α} (h : ∀ i x, xs[i]? = some x → ∀ j, j < sz → w.cell? ⟨b, off + i * sz + j, none⟩ = (cells x)[j]?) :
    ∀ j u, (flatv cells xs)[j]? = some u → w.cell? ((⟨b, off, none⟩ : Addr).add j) = some u := by
  intro j u hu
  have hlt : j < xs.length * sz := by
    rw [← flatv_len hsz]
    exact (List.getElem?_eq_some_iff.1 hu).1
  have hi : j / sz < xs.length := Nat.div_lt_of_lt_mul (by rw [Nat.mul_comm]; exact hlt)
  obtain ⟨x, hx⟩ : ∃ x, xs[j / sz]? = some x := ⟨_, List.getElem?_eq_getElem hi⟩
  have hr : j % sz < sz := Nat.mod_lt _ h0
  have e : j = j / sz * sz + j % sz := by rw [Nat.mul_comm]; exact (Nat.div_add_mod j sz).symm
  rw [e, flatv_get hsz xs hx hr] at hu
  rw [add_plain_o, e, ← Nat.add_assoc, h _ x hx _ hr]
  exact hu
theorem nds_one (xs : List Nde) : ∀ u ∈ flatv Nde.cells xs, u.oneCell' = true := fun u hu => by
  unfold flatv at hu
  obtain ⟨x, _, hx⟩ := List.mem_flatMap.1 hu
  simp at hx
  rcases hx with rfl | rfl | rfl | rfl | rfl | rfl <;> rfl
theorem nds_news {w : World} {nb noff n : Nat} {xs : List Nde} (h : NdsB w (some ⟨nb, noff, none⟩) n xs) (ys : List Nde) (m : Nat) (hy : ∀ i y, ys[i]? = some y → xs[m + i]? = some y) :
    ∀ j u, (flatv Nde.cells ys)[j]? = some u → w.cell? ((⟨nb, noff + m * 6, none⟩ : Addr).add j) = some u :=
  flatv_news (cells := Nde.cells) (sz := 6) (fun _ => rfl) (by decide) fun i y hi j hj => by
    obtain ⟨b, off, e, _, hc, _⟩ := h.cell (m + i) y (hy i y hi)
    simp only [Option.some.injEq, Addr.mk.injEq, and_true] at e
    obtain ⟨rfl, rfl⟩ := e
    have e2 : noff + m * 6 + i * 6 + j = noff + (m + i) * 6 + j := by omega
    rw [e2]
    exact hc j hj
theorem NdB.low {w w' : World} {x : Nde} (h : NdB w x) (hb : Below w.heap.size w w') : NdB w' x := ⟨⟨h.a.ok.low hb, h.a.name, h.a.parts⟩, h.v⟩
theorem nds_mem {w : World} {so : Option Addr} {n : Nat} {xs : List Nde} (h : NdsB w so n xs) : ∀ x, x ∈ xs → NdB w x := fun x hx => by
  obtain ⟨i, hi⟩ := List.mem_iff_getElem?.1 hx
  obtain ⟨_, _, _, _, _, ho⟩ := h.cell i x hi
  exact ho
theorem ownN_form {w : World} {B : Nat} {v : Value} {xs : List Nde} (h : OwnN w B v xs) (hok : ∀ x, x ∈ xs → NdB w x) : ∃ so c, v = .slice so xs.length c ∧ NdsB w so xs.length xs := by
  rcases h.row.2 with ⟨hv, h0⟩ | ⟨g, cap, cur, hv, hg, hh, hnc, hmx, hsz, hr⟩
  · have e : xs = [] := List.eq_nil_of_length_eq_zero h0
    subst e
    exact ⟨none, 0, hv, rfl, by simp, fun i x h => by simp at h⟩
  · refine ⟨some ⟨g, 0, none⟩, cap, hv, rfl, ?_, fun i x hx => ⟨g, 0, rfl, blk_lt hh, fun j hj => ?_, hok x (List.mem_of_getElem? hx)⟩⟩
    · have : maxLen = 9223372036854775807 := by kernel_rfl
      omega
    · have hi := (List.getElem?_eq_some_iff.1 hx).1
      rw [Nat.zero_add, blk_cell hh]
      have h2 := flatv_get (cells := Nde.cells) (sz := 6) (fun _ => rfl) xs hx hj
      rw [← hr, List.getElem?_take_of_lt (by omega)] at h2
      simpa using h2
structure SlN (W : World) (xs : List Nde) (v : Value) (wx : World) : Prop where
  own : OwnN wx W.heap.size v xs
  low : Below W.heap.size W wx

set_option maxRecDepth 100000 in
set_option maxHeartbeats 6400000 in
theorem ssmaller_any (ao : Option Addr) (n c : Nat) (xs : List Nde) (x : Spv) (wo : Int) (w : World) (hN : NdsB w ao n xs) (hnc : n ≤ c) (hL : (textA (xs.map Nde.pl)).length ≤ 4611686018427387904) (hx : x.ok w) (hm : Mx w) (ht : Tb w) (ht0 : -9223372036854775808 ≤ wo) (ht1 : wo ≤ 9223372036854775807) :
    Calls Tryd.prog 11 #[.slice ao n c, x.val, .int .i64 wo] w fun e w' => e = .returned (.bool true) ∧ Below w.heap.size w w' := by
  have hB0 := BoxC.new w x
  have hc1 := awake8 (w.alloc (.cells x.cells 28 (0, 0))) (hm.low hB0.low) (ht.low hB0.low)
  obtain ⟨⟨user, part, nodes, ⟨da, db, dc, dd⟩, wall, prio, array, retries, held, after⟩, so, an, cp⟩ := x
  by_cases q0 : n = 0
  · have d0 : ((n : Int) == 0) = true := by rw [q0]; rfl
    clear q0
    replace hc1 := Lib.hid hc1; replace hB0 := Lib.hid hB0; replace hx := Lib.hid hx; replace hm := Lib.hid hm; replace ht := Lib.hid ht; replace hN := Lib.hid hN; replace hL := Lib.hid hL
    go_enter Tryd.func11, Tryd.ntmps11
    go_wp2_with fail
    refine hc1.out.mono ?_
    rintro e w1 ⟨rfl, hb1⟩
    have hB1 := hB0.out.below hb1
    have y0 : w1.cell? ⟨w.heap.size, 0, none⟩ = some (.string user) := blk_cell (hB1.box) 0
    have y1 : w1.cell? ⟨w.heap.size, 1, none⟩ = some (.string part) := blk_cell (hB1.box) 1
    have y2 : w1.cell? ⟨w.heap.size, 2, none⟩ = some (.int .i64 nodes) := blk_cell (hB1.box) 2
    have y3 : w1.cell? ⟨w.heap.size, 3, none⟩ = some (.int .i64 da) := blk_cell (hB1.box) 3
    have y4 : w1.cell? ⟨w.heap.size, 4, none⟩ = some (.int .i64 db) := blk_cell (hB1.box) 4
    have y5 : w1.cell? ⟨w.heap.size, 5, none⟩ = some (.int .i64 dc) := blk_cell (hB1.box) 5
    have y6 : w1.cell? ⟨w.heap.size, 6, none⟩ = some (.int .i64 dd) := blk_cell (hB1.box) 6
    have y7 : w1.cell? ⟨w.heap.size, 7, none⟩ = some (.int .i64 wall) := blk_cell (hB1.box) 7
    have y8 : w1.cell? ⟨w.heap.size, 8, none⟩ = some (.int .i64 prio) := blk_cell (hB1.box) 8
    have y9 : w1.cell? ⟨w.heap.size, 9, none⟩ = some (.int .i64 array) := blk_cell (hB1.box) 9
    have y10 : w1.cell? ⟨w.heap.size, 10, none⟩ = some (.int .i64 retries) := blk_cell (hB1.box) 10
    have y11 : w1.cell? ⟨w.heap.size, 11, none⟩ = some (.bool held) := blk_cell (hB1.box) 11
    have y12 : w1.cell? ⟨w.heap.size, 12, none⟩ = some (.slice so an cp) := blk_cell (hB1.box) 12
    replace hb1 := Lib.hid hb1; replace hB1 := Lib.hid hB1
    go_wp2
    go_ret
    exact ⟨rfl, hB1.out.low⟩
  have d0 : ((n : Int) == 0) = false := by rw [beq_eq_false_iff_ne]; omega
  by_cases q1 : 16 < n
  · have d1 : decide ((16 : Int) < n) = true := decide_eq_true (by omega)
    have d1' : decide (16 < n) = true := decide_eq_true q1
    replace hc1 := Lib.hid hc1; replace hB0 := Lib.hid hB0; replace hx := Lib.hid hx; replace hm := Lib.hid hm; replace ht := Lib.hid ht; replace hN := Lib.hid hN; replace hL := Lib.hid hL
    go_enter Tryd.func11, Tryd.ntmps11
    go_wp2_with fail
    refine hc1.out.mono ?_
    rintro e w1 ⟨rfl, hb1⟩
    have hB1 := hB0.out.below hb1
    have y0 : w1.cell? ⟨w.heap.size, 0, none⟩ = some (.string user) := blk_cell (hB1.box) 0
    have y1 : w1.cell? ⟨w.heap.size, 1, none⟩ = some (.string part) := blk_cell (hB1.box) 1
    have y2 : w1.cell? ⟨w.heap.size, 2, none⟩ = some (.int .i64 nodes) := blk_cell (hB1.box) 2
    have y3 : w1.cell? ⟨w.heap.size, 3, none⟩ = some (.int .i64 da) := blk_cell (hB1.box) 3
    have y4 : w1.cell? ⟨w.heap.size, 4, none⟩ = some (.int .i64 db) := blk_cell (hB1.box) 4
    have y5 : w1.cell? ⟨w.heap.size, 5, none⟩ = some (.int .i64 dc) := blk_cell (hB1.box) 5
    have y6 : w1.cell? ⟨w.heap.size, 6, none⟩ = some (.int .i64 dd) := blk_cell (hB1.box) 6
    have y7 : w1.cell? ⟨w.heap.size, 7, none⟩ = some (.int .i64 wall) := blk_cell (hB1.box) 7
    have y8 : w1.cell? ⟨w.heap.size, 8, none⟩ = some (.int .i64 prio) := blk_cell (hB1.box) 8
    have y9 : w1.cell? ⟨w.heap.size, 9, none⟩ = some (.int .i64 array) := blk_cell (hB1.box) 9
    have y10 : w1.cell? ⟨w.heap.size, 10, none⟩ = some (.int .i64 retries) := blk_cell (hB1.box) 10
    have y11 : w1.cell? ⟨w.heap.size, 11, none⟩ = some (.bool held) := blk_cell (hB1.box) 11
    have y12 : w1.cell? ⟨w.heap.size, 12, none⟩ = some (.slice so an cp) := blk_cell (hB1.box) 12
    replace hb1 := Lib.hid hb1; replace hB1 := Lib.hid hB1
    go_wp2
    go_ret
    exact ⟨rfl, hB1.out.low⟩
  have d1 : decide ((16 : Int) < n) = false := decide_eq_false (by omega)
  have d1' : decide (16 < n) = false := decide_eq_false q1
  by_cases q2 : 1000 < an
  · have d2 : decide ((1000 : Int) < an) = true := decide_eq_true (by omega)
    have d2' : decide (1000 < an) = true := decide_eq_true q2
    replace hc1 := Lib.hid hc1; replace hB0 := Lib.hid hB0; replace hx := Lib.hid hx; replace hm := Lib.hid hm; replace ht := Lib.hid ht; replace hN := Lib.hid hN; replace hL := Lib.hid hL
    go_enter Tryd.func11, Tryd.ntmps11
    go_wp2_with fail
    refine hc1.out.mono ?_
    rintro e w1 ⟨rfl, hb1⟩
    have hB1 := hB0.out.below hb1
    have y0 : w1.cell? ⟨w.heap.size, 0, none⟩ = some (.string user) := blk_cell (hB1.box) 0
    have y1 : w1.cell? ⟨w.heap.size, 1, none⟩ = some (.string part) := blk_cell (hB1.box) 1
    have y2 : w1.cell? ⟨w.heap.size, 2, none⟩ = some (.int .i64 nodes) := blk_cell (hB1.box) 2
    have y3 : w1.cell? ⟨w.heap.size, 3, none⟩ = some (.int .i64 da) := blk_cell (hB1.box) 3
    have y4 : w1.cell? ⟨w.heap.size, 4, none⟩ = some (.int .i64 db) := blk_cell (hB1.box) 4
    have y5 : w1.cell? ⟨w.heap.size, 5, none⟩ = some (.int .i64 dc) := blk_cell (hB1.box) 5
    have y6 : w1.cell? ⟨w.heap.size, 6, none⟩ = some (.int .i64 dd) := blk_cell (hB1.box) 6
    have y7 : w1.cell? ⟨w.heap.size, 7, none⟩ = some (.int .i64 wall) := blk_cell (hB1.box) 7
    have y8 : w1.cell? ⟨w.heap.size, 8, none⟩ = some (.int .i64 prio) := blk_cell (hB1.box) 8
    have y9 : w1.cell? ⟨w.heap.size, 9, none⟩ = some (.int .i64 array) := blk_cell (hB1.box) 9
    have y10 : w1.cell? ⟨w.heap.size, 10, none⟩ = some (.int .i64 retries) := blk_cell (hB1.box) 10
    have y11 : w1.cell? ⟨w.heap.size, 11, none⟩ = some (.bool held) := blk_cell (hB1.box) 11
    have y12 : w1.cell? ⟨w.heap.size, 12, none⟩ = some (.slice so an cp) := blk_cell (hB1.box) 12
    replace hb1 := Lib.hid hb1; replace hB1 := Lib.hid hB1
    go_wp2
    go_ret
    exact ⟨rfl, hB1.out.low⟩
  have d2 : decide ((1000 : Int) < an) = false := decide_eq_false (by omega)
  have d2' : decide (1000 < an) = false := decide_eq_false q2
  obtain ⟨tn, htn⟩ : ∃ tn, tn = if wo < 0 then -(wo + 1) else wo := ⟨_, rfl⟩
  have htn0 : 0 ≤ tn := by rw [htn]; split <;> omega
  have htn1 : tn ≤ 9223372036854775807 := by rw [htn]; split <;> omega
  have htt : Hid (-9223372036854775808 ≤ wo ∧ wo ≤ 9223372036854775807) := ⟨ht0, ht1⟩
  obtain ⟨i48, hi48, hz48, hz481, hz482⟩ := info_parts info48s
  replace hc1 := Lib.hid hc1; replace hB0 := Lib.hid hB0; replace hx := Lib.hid hx; replace hm := Lib.hid hm; replace ht := Lib.hid ht; replace hN := Lib.hid hN; replace hL := Lib.hid hL; replace htn := Lib.hid htn; replace hi48 := Lib.hid hi48; replace hz48 := Lib.hid hz48; replace hz481 := Lib.hid hz481; replace hz482 := Lib.hid hz482
  go_enter Tryd.func11, Tryd.ntmps11
  go_wp2_with fail
  refine hc1.out.mono ?_
  rintro e w1 ⟨rfl, hb1⟩
  have hB1 := hB0.out.below hb1
  have y0 : w1.cell? ⟨w.heap.size, 0, none⟩ = some (.string user) := blk_cell (hB1.box) 0
  have y1 : w1.cell? ⟨w.heap.size, 1, none⟩ = some (.string part) := blk_cell (hB1.box) 1
  have y2 : w1.cell? ⟨w.heap.size, 2, none⟩ = some (.int .i64 nodes) := blk_cell (hB1.box) 2
  have y3 : w1.cell? ⟨w.heap.size, 3, none⟩ = some (.int .i64 da) := blk_cell (hB1.box) 3
  have y4 : w1.cell? ⟨w.heap.size, 4, none⟩ = some (.int .i64 db) := blk_cell (hB1.box) 4
  have y5 : w1.cell? ⟨w.heap.size, 5, none⟩ = some (.int .i64 dc) := blk_cell (hB1.box) 5
  have y6 : w1.cell? ⟨w.heap.size, 6, none⟩ = some (.int .i64 dd) := blk_cell (hB1.box) 6
  have y7 : w1.cell? ⟨w.heap.size, 7, none⟩ = some (.int .i64 wall) := blk_cell (hB1.box) 7
  have y8 : w1.cell? ⟨w.heap.size, 8, none⟩ = some (.int .i64 prio) := blk_cell (hB1.box) 8
  have y9 : w1.cell? ⟨w.heap.size, 9, none⟩ = some (.int .i64 array) := blk_cell (hB1.box) 9
  have y10 : w1.cell? ⟨w.heap.size, 10, none⟩ = some (.int .i64 retries) := blk_cell (hB1.box) 10
  have y11 : w1.cell? ⟨w.heap.size, 11, none⟩ = some (.bool held) := blk_cell (hB1.box) 11
  have y12 : w1.cell? ⟨w.heap.size, 12, none⟩ = some (.slice so an cp) := blk_cell (hB1.box) 12
  replace hb1 := Lib.hid hb1; replace hB1 := Lib.hid hB1
  go_upto_if 34 with fail
  go_cut [2] (fun tv wx => SlT tn w1 tv wx)
  case first =>
    have htt' := htt.out
    obtain ⟨t0, t1⟩ := htt'
    by_cases q : wo < 0
    · have d : decide (wo < 0) = true := decide_eq_true q
      have e9 : -(wo + 1) = tn := by rw [htn.out, if_pos q]
      go_wp2
      go_meet
      case rel => exact ⟨by rw [← e9], rfl⟩
    · have d : decide (wo < 0) = false := decide_eq_false q
      have e9 : wo = tn := by rw [htn.out, if_neg q]
      replace e9 := Lib.hid e9
      go_wp2
      go_meet
      case rel => exact ⟨by rw [e9.out], rfl⟩
  case rest =>
  obtain ⟨rfl, rfl⟩ := hcut
  have hnp : (0 : Int) < n := by omega
  obtain ⟨K, hK⟩ : ∃ K : Nat, tn % (n : Int) = K := ⟨(tn % (n : Int)).toNat, by have := Int.emod_nonneg tn (b := (n : Int)) (by omega); omega⟩
  have hKl : K < n := by have := Int.emod_lt_of_pos tn (b := (n : Int)) (by omega); omega
  have hK' := Lib.hid hK
  clear hK
  go_upto_region 9 with fail
  rw [hK'.out]
  obtain ⟨x0, hx0⟩ : ∃ x0, xs[0]? = some x0 := ⟨_, List.getElem?_eq_getElem (by rw [hN.out.len]; omega)⟩
  obtain ⟨nb, noff, rfl, _, _, _⟩ := hN.out.cell 0 x0 hx0
  have hN1 := hN.out.low hB1.out.low
  have hnewA := nds_news hN1 (xs.take K) 0 (fun i y hi => by rw [Nat.zero_add]; rw [List.getElem?_take] at hi; split at hi; exact hi; cases hi)
  have hnewD := nds_news hN1 (xs.drop (K + 1)) (K + 1) (fun i y hi => by rw [List.getElem?_drop] at hi; exact hi)
  rw [Nat.zero_mul, Nat.add_zero] at hnewA
  have honeA := nds_one (xs.take K)
  have honeD := nds_one (xs.drop (K + 1))
  obtain ⟨A, hA⟩ : ∃ A, A = flatv Nde.cells (xs.take K) := ⟨_, rfl⟩
  obtain ⟨D, hD⟩ : ∃ D, D = flatv Nde.cells (xs.drop (K + 1)) := ⟨_, rfl⟩
  rw [← hA] at hnewA honeA
  rw [← hD] at hnewD honeD
  have hlA : A.length = K * 6 := by rw [hA, flatv_len (sz := 6) (fun _ => rfl), List.length_take, hN.out.len, Nat.min_eq_left (by omega)]
  have hlD : D.length = (n - (K + 1)) * 6 := by rw [hD, flatv_len (sz := 6) (fun _ => rfl), List.length_drop, hN.out.len]
  have hown0 : w1.ownsRow w1.heap.size 48 6 (.slice none 0 0) 0 [] := ⟨rfl, .inl ⟨rfl, rfl⟩⟩
  have mx : maxLen = 9223372036854775807 := by kernel_rfl
  have h63 : 0 + K ≤ maxLen := by omega
  have hby : (0 + K) * 72 ≤ 140737488355328 := by omega
  replace hx0 := Lib.hid hx0; replace hN1 := Lib.hid hN1; replace hnewA := Lib.hid hnewA; replace hnewD := Lib.hid hnewD; replace honeA := Lib.hid honeA; replace honeD := Lib.hid honeD; replace hA := Lib.hid hA; replace hD := Lib.hid hD; replace hlA := Lib.hid hlA; replace hlD := Lib.hid hlD; replace hown0 := Lib.hid hown0; replace h63 := Lib.hid h63; replace hby := Lib.hid hby; replace mx := Lib.hid mx
  go_upto_region 11 with (at_builtin; refine wpList_append_own _ rfl _ _ 42 rfl w1.heap.size 48 i48 Nde.zero.val 6 72 Tryd.underlying42 hi48.out hz48.out hz481.out hz482.out rfl (by decide) _ 0 [] rfl hown0.out ⟨nb, noff, none⟩ K c A rfl hlA.out hnewA.out honeA.out h63.out hby.out (Nat.le_refl _) ?_; intro v1 w2 hown1 hgrow1 _; replace hown1 := Lib.hid hown1; replace hgrow1 := Lib.hid hgrow1; simp only [Act.put, List.setIfInBounds_toArray, List.set_cons_succ, List.set_cons_zero])
  go_cut [9] from 42 to 53 (fun lv wx => SlN w1 (xs.take K ++ xs.drop (K + 1)) lv wx)
  case first =>
    have h1 := hown1.out
    rw [Nat.zero_add, List.nil_append] at h1
    have hgr := hgrow1.out
    have hlow12 : Below w1.heap.size w1 w2 := (Below.refl _ _).grown hgr (Nat.le_refl _) (fun k hk => by cases hk)
    have hN2 := hN1.out.low hlow12
    have h63b : K + (n - (K + 1)) ≤ maxLen := by have := mx.out; omega
    have hbyb : (K + (n - (K + 1))) * 72 ≤ 140737488355328 := by omega
    have hbs : w1.heap.size ≤ w2.heap.size := hlow12.size
    by_cases hcK : c = K + 1
    · have hD0 : D = [] := List.eq_nil_of_length_eq_zero (by rw [hlD.out]; omega)
      have hnewX : ∀ j u, D[j]? = some u → w2.cell? ((⟨nb, noff, none⟩ : Addr).add j) = some u := fun j u hu => by rw [hD0] at hu; simp at hu
      obtain rfl : n = K + 1 := by omega
      subst hcK
      have h63c : K + 0 ≤ maxLen := by have := mx.out; omega
      have hbyc : (K + 0) * 72 ≤ 140737488355328 := by omega
      have hlc : D.length = 0 * 6 := by rw [hD0]; rfl
      replace h1 := Lib.hid h1; replace hgr := Lib.hid hgr; replace hlow12 := Lib.hid hlow12; replace hN2 := Lib.hid hN2; replace h63b := Lib.hid h63b; replace hbyb := Lib.hid hbyb; replace hbs := Lib.hid hbs; replace hD0 := Lib.hid hD0; replace hnewX := Lib.hid hnewX; replace hown1 := Lib.hid hown1; replace h63c := Lib.hid h63c; replace hbyc := Lib.hid hbyc; replace hlc := Lib.hid hlc
      go_wp2_with (at_builtin; refine wpList_append_own _ rfl _ _ 42 rfl w1.heap.size 48 i48 Nde.zero.val 6 72 Tryd.underlying42 hi48.out hz48.out hz481.out hz482.out rfl (by decide) _ K A rfl h1.out ⟨nb, noff, none⟩ 0 _ D rfl hlc.out hnewX.out honeD.out h63c.out hbyc.out hbs.out ?_; intro v3 w3 hown3 hgrow3 _; replace hown3 := Lib.hid hown3; replace hgrow3 := Lib.hid hgrow3)
      have hg3 := hgrow3.out
      have hlow3 : Below w1.heap.size w1 w3 := hlow12.out.grown hg3 hbs.out (fun k hk => (h1.out.lt k hk).1)
      have hO3 : OwnN w3 w1.heap.size v3 (xs.take K ++ xs.drop (K + 1)) := by
        refine ⟨?_⟩
        have h := hown3.out
        rw [flatv_append, ← hA.out, ← hD.out, List.length_append, List.length_take, List.length_drop, hN.out.len, Nat.min_eq_left (by omega), show K + 1 - (K + 1) = 0 by omega]
        exact h
      replace hg3 := Lib.hid hg3; replace hlow3 := Lib.hid hlow3; replace hO3 := Lib.hid hO3
      go_wp2
      go_meet
      exact ⟨hO3.out, hlow3.out⟩
    · have hnewX := nds_news hN2 (xs.drop (K + 1)) (K + 1) (fun i y hi => by rw [List.getElem?_drop] at hi; exact hi)
      rw [← hD.out] at hnewX
      replace h1 := Lib.hid h1; replace hgr := Lib.hid hgr; replace hlow12 := Lib.hid hlow12; replace hN2 := Lib.hid hN2; replace h63b := Lib.hid h63b; replace hbyb := Lib.hid hbyb; replace hbs := Lib.hid hbs; replace hnewX := Lib.hid hnewX; replace hown1 := Lib.hid hown1
      go_wp2_with (at_builtin; refine wpList_append_own _ rfl _ _ 42 rfl w1.heap.size 48 i48 Nde.zero.val 6 72 Tryd.underlying42 hi48.out hz48.out hz481.out hz482.out rfl (by decide) _ K A rfl h1.out ⟨nb, noff + (K + 1) * 6, none⟩ (n - (K + 1)) _ D rfl hlD.out hnewX.out honeD.out h63b.out hbyb.out hbs.out ?_; intro v3 w3 hown3 hgrow3 _; replace hown3 := Lib.hid hown3; replace hgrow3 := Lib.hid hgrow3)
      have hg3 := hgrow3.out
      have hlow3 : Below w1.heap.size w1 w3 := hlow12.out.grown hg3 hbs.out (fun k hk => (h1.out.lt k hk).1)
      have hO3 : OwnN w3 w1.heap.size v3 (xs.take K ++ xs.drop (K + 1)) := by
        refine ⟨?_⟩
        have h := hown3.out
        rw [flatv_append, ← hA.out, ← hD.out, List.length_append, List.length_take, List.length_drop, hN.out.len, Nat.min_eq_left (by omega)]
        exact h
      replace hg3 := Lib.hid hg3; replace hlow3 := Lib.hid hlow3; replace hO3 := Lib.hid hO3
      go_wp2
      go_meet
      exact ⟨hO3.out, hlow3.out⟩
  case rest =>
    obtain ⟨hO, hlowc⟩ := hcut
    have hNc := hN1.out.low hlowc
    have hmem : ∀ x, x ∈ xs.take K ++ xs.drop (K + 1) → NdB wc x := fun x hx => nds_mem hNc x ((less_sub xs K).subset hx)
    obtain ⟨ls, hls⟩ : ∃ ls, ls = xs.take K ++ xs.drop (K + 1) := ⟨_, rfl⟩
    rw [← hls] at hO hmem
    obtain ⟨lo, lc, rfl, hNl⟩ := ownN_form hO hmem
    obtain ⟨ln, hln⟩ : ∃ ln, ln = ls.length := ⟨_, rfl⟩
    rw [← hln] at hNl
    rw [← hln]
    have hBc := hB1.out.below hlowc
    obtain ⟨V, hV⟩ : ∃ V, V = xs.map Nde.pl := ⟨_, rfl⟩
    have hVl : ls.map Nde.pl = V.take K ++ V.drop (K + 1) := by rw [hls, hV, List.map_append, List.map_take, List.map_drop]
    obtain ⟨U, hU⟩ : ∃ U, U = ls.map Nde.pl := ⟨_, rfl⟩
    have hLV := hL.out
    rw [← hV] at hLV
    have hUl : (textA U).length ≤ 4611686018427387904 := by
      refine Nat.le_trans ?_ hLV
      rw [hU, hVl]
      exact (flatMap_sub lineA (less_sub V K)).length_le
    have hsub := fun h1 h2 => readOf_less (vs := V) (k := K) h1 h2
    rw [← hVl, ← hU] at hsub
    obtain ⟨T1, hT1⟩ : ∃ T1, T1 = ofL (textA V) := ⟨_, rfl⟩
    obtain ⟨T2, hT2⟩ : ∃ T2, T2 = ofL (textA U) := ⟨_, rfl⟩
    have hca : ∀ W, Below wc.heap.size wc W → Calls Tryd.prog 44 #[.agg #[.slice (some ⟨nb, noff, none⟩) n c]] W fun e w' => e = .returned (.string T1) ∧ Below W.heap.size W w' := fun W hb => by rw [hT1]; exact rftextA_any (hNc.low hb) hV hLV
    have hcb : ∀ W, Below wc.heap.size wc W → Calls Tryd.prog 44 #[.agg #[.slice lo ln lc]] W fun e w' => e = .returned (.string T2) ∧ Below W.heap.size W w' := fun W hb => by rw [hT2]; exact rftextA_any (hNl.low hb) hU hUl
    rw [← hT1, ← hT2] at hsub
    have hr1 : ∀ W, Below wc.heap.size wc W → Calls Tryd.prog 30 #[.string T1] W (ReadPost T1 W) := fun W hb => read_any T1 W ((hm.out.low hBc.low).low hb)
    have hr2 : ∀ W, Below wc.heap.size wc W → Calls Tryd.prog 30 #[.string T2] W (ReadPost T2 W) := fun W hb => read_any T2 W ((hm.out.low hBc.low).low hb)
    obtain ⟨e1, he1⟩ : ∃ e1, e1 = (readOf T1).2.1 := ⟨_, rfl⟩
    obtain ⟨e2, he2⟩ : ∃ e2, e2 = (readOf T2).2.1 := ⟨_, rfl⟩
    obtain ⟨n1, hn1⟩ : ∃ n1, n1 = (readOf T1).2.2 := ⟨_, rfl⟩
    obtain ⟨n2, hn2⟩ : ∃ n2, n2 = (readOf T2).2.2 := ⟨_, rfl⟩
    unfold ReadPost at hr1 hr2
    simp only [← he1, ← hn1] at hr1
    simp only [← he2, ← hn2] at hr2
    rw [← he1, ← he2] at hsub
    clear y0 y1 y2 y3 y4 y5 y6 y7 y8 y9 y10 y11 y12
    have hrf := Below.refl wc.heap.size wc
    replace hO := Lib.hid hO; replace hlowc := Lib.hid hlowc; replace hNc := Lib.hid hNc; replace hmem := Lib.hid hmem; replace hls := Lib.hid hls; replace hNl := Lib.hid hNl; replace hln := Lib.hid hln; replace hBc := Lib.hid hBc; replace hV := Lib.hid hV; replace hVl := Lib.hid hVl; replace hU := Lib.hid hU; replace hLV := Lib.hid hLV; replace hUl := Lib.hid hUl; replace hsub := Lib.hid hsub; replace hT1 := Lib.hid hT1; replace hT2 := Lib.hid hT2; replace hca := Lib.hid hca; replace hcb := Lib.hid hcb; replace hr1 := Lib.hid hr1; replace hr2 := Lib.hid hr2; replace he1 := Lib.hid he1; replace he2 := Lib.hid he2; replace hn1 := Lib.hid hn1; replace hn2 := Lib.hid hn2; replace hrf := Lib.hid hrf
    go_wp2_with fail
    refine (hca.out _ hrf.out).mono ?_
    rintro e w3 ⟨rfl, hb3⟩
    replace hb3 := Lib.hid hb3
    go_wp2_with fail
    refine (hr1.out _ hb3.out).mono ?_
    rintro e w4 ⟨p1, rfl, hb4, hF1⟩
    have hc4 := hb3.out.trans (hb4.mono hb3.out.size)
    replace hb4 := Lib.hid hb4; replace hF1 := Lib.hid hF1; replace hc4 := Lib.hid hc4
    go_wp2_with fail
    refine (hcb.out _ hc4.out).mono ?_
    rintro e w5 ⟨rfl, hb5⟩
    have hc5 := hc4.out.trans (hb5.mono hc4.out.size)
    replace hb5 := Lib.hid hb5; replace hc5 := Lib.hid hc5
    go_wp2_with fail
    refine (hr2.out _ hc5.out).mono ?_
    rintro e w6 ⟨p2, rfl, hb6, hF2⟩
    have hc6 := hc5.out.trans (hb6.mono hc5.out.size)
    have hB6 := hBc.out.below hc6
    by_cases g1 : e1 = 0
    rotate_left
    · have d1 : (e1 != (0 : Int)) = true := by rw [bne_iff_ne]; exact g1
      replace hb6 := Lib.hid hb6; replace hF2 := Lib.hid hF2; replace hc6 := Lib.hid hc6; replace hB6 := Lib.hid hB6; replace g1 := Lib.hid g1
      go_wp2
      go_ret
      exact ⟨rfl, hB6.out.low⟩
    have d5 : (e1 != (0 : Int)) = false := by rw [g1]; rfl
    by_cases g2 : e2 = 0
    rotate_left
    · have d1 : (e2 != (0 : Int)) = true := by rw [bne_iff_ne]; exact g2
      replace hb6 := Lib.hid hb6; replace hF2 := Lib.hid hF2; replace hc6 := Lib.hid hc6; replace hB6 := Lib.hid hB6; replace g1 := Lib.hid g1; replace g2 := Lib.hid g2
      go_wp2
      go_ret
      exact ⟨rfl, hB6.out.low⟩
    have d6 : (e2 != (0 : Int)) = false := by rw [g2]; rfl
    obtain ⟨rfl, hf1⟩ : p1 = some ⟨w3.heap.size + 4, 0, none⟩ ∧ Flt w4 (w3.heap.size + 4) (w3.heap.size + 3) (w3.heap.size + 7) (readOf T1).1 := by
      rcases hF1.out with ⟨h, _⟩ | ⟨_, h⟩
      · exact absurd g1 h
      · exact h
    obtain ⟨rfl, hf2⟩ : p2 = some ⟨w5.heap.size + 4, 0, none⟩ ∧ Flt w6 (w5.heap.size + 4) (w5.heap.size + 3) (w5.heap.size + 7) (readOf T2).1 := by
      rcases hF2 with ⟨h, _⟩ | ⟨_, h⟩
      · exact absurd g2 h
      · exact h
    have hs12 := hsub.out g1 g2
    have hf1' := (hf1.below hb5.out).below hb6
    obtain ⟨X, hX⟩ : ∃ X : Spv, X = ⟨⟨user, part, nodes, ⟨da, db, dc, dd⟩, wall, prio, array, retries, held, after⟩, so, an, cp⟩ := ⟨_, rfl⟩
    have hx6 := hB6.ok hx.out
    rw [← hX] at hx6
    obtain ⟨F1, hF1e⟩ : ∃ F1, F1 = (readOf T1).1 := ⟨_, rfl⟩
    obtain ⟨F2, hF2e⟩ : ∃ F2, F2 = (readOf T2).1 := ⟨_, rfl⟩
    have hok1 : FltOk F1 := by rw [hF1e]; exact readOf_good T1
    have hok2 : FltOk F2 := by rw [hF2e]; exact readOf_good T2
    rw [← hF1e] at hf1' hs12
    rw [← hF2e] at hf2 hs12
    have hsu2 : ∀ W, Below w6.heap.size w6 W → Calls Tryd.prog 45 #[.pointer (some ⟨w5.heap.size + 4, 0, none⟩), X.val] W fun e w' => e = .returned (.int .i64 (suitS X.pl F2)) ∧ Below W.heap.size W w' := fun W hb => suits_any (hf2.below hb) hok2 X (hx6.low hb)
    have hsu1 : ∀ W, Below w6.heap.size w6 W → Calls Tryd.prog 45 #[.pointer (some ⟨w3.heap.size + 4, 0, none⟩), X.val] W fun e w' => e = .returned (.int .i64 (suitS X.pl F1)) ∧ Below W.heap.size W w' := fun W hb => suits_any (hf1'.below hb) hok1 X (hx6.low hb)
    have hmono := suit_mono (s := X.pl) hs12
    obtain ⟨r1, hr1e⟩ : ∃ r1, r1 = suitS X.pl F1 := ⟨_, rfl⟩
    obtain ⟨r2, hr2e⟩ : ∃ r2, r2 = suitS X.pl F2 := ⟨_, rfl⟩
    simp only [← hr1e] at hsu1
    simp only [← hr2e] at hsu2
    rw [← hr1e, ← hr2e] at hmono
    rw [hX] at hsu1 hsu2
    obtain ⟨P1, hP1⟩ : ∃ P1, P1 = w3.heap.size + 4 := ⟨_, rfl⟩
    obtain ⟨P2, hP2⟩ : ∃ P2, P2 = w5.heap.size + 4 := ⟨_, rfl⟩
    rw [← hP1, ← hP2]
    simp only [← hP1] at hsu1
    simp only [← hP2] at hsu2
    have y0 : w6.cell? ⟨w.heap.size, 0, none⟩ = some (.string user) := blk_cell (hB6.box) 0
    have y1 : w6.cell? ⟨w.heap.size, 1, none⟩ = some (.string part) := blk_cell (hB6.box) 1
    have y2 : w6.cell? ⟨w.heap.size, 2, none⟩ = some (.int .i64 nodes) := blk_cell (hB6.box) 2
    have y3 : w6.cell? ⟨w.heap.size, 3, none⟩ = some (.int .i64 da) := blk_cell (hB6.box) 3
    have y4 : w6.cell? ⟨w.heap.size, 4, none⟩ = some (.int .i64 db) := blk_cell (hB6.box) 4
    have y5 : w6.cell? ⟨w.heap.size, 5, none⟩ = some (.int .i64 dc) := blk_cell (hB6.box) 5
    have y6 : w6.cell? ⟨w.heap.size, 6, none⟩ = some (.int .i64 dd) := blk_cell (hB6.box) 6
    have y7 : w6.cell? ⟨w.heap.size, 7, none⟩ = some (.int .i64 wall) := blk_cell (hB6.box) 7
    have y8 : w6.cell? ⟨w.heap.size, 8, none⟩ = some (.int .i64 prio) := blk_cell (hB6.box) 8
    have y9 : w6.cell? ⟨w.heap.size, 9, none⟩ = some (.int .i64 array) := blk_cell (hB6.box) 9
    have y10 : w6.cell? ⟨w.heap.size, 10, none⟩ = some (.int .i64 retries) := blk_cell (hB6.box) 10
    have y11 : w6.cell? ⟨w.heap.size, 11, none⟩ = some (.bool held) := blk_cell (hB6.box) 11
    have y12 : w6.cell? ⟨w.heap.size, 12, none⟩ = some (.slice so an cp) := blk_cell (hB6.box) 12
    have hrf6 := Below.refl w6.heap.size w6
    replace hb6 := Lib.hid hb6; replace hF2 := Lib.hid hF2; replace hc6 := Lib.hid hc6; replace hB6 := Lib.hid hB6; replace g1 := Lib.hid g1; replace g2 := Lib.hid g2; replace hf1 := Lib.hid hf1; replace hf2 := Lib.hid hf2; replace hs12 := Lib.hid hs12; replace hf1' := Lib.hid hf1'; replace hX := Lib.hid hX; replace hx6 := Lib.hid hx6; replace hF1e := Lib.hid hF1e; replace hF2e := Lib.hid hF2e; replace hok1 := Lib.hid hok1; replace hok2 := Lib.hid hok2; replace hsu1 := Lib.hid hsu1; replace hsu2 := Lib.hid hsu2; replace hmono := Lib.hid hmono; replace hr1e := Lib.hid hr1e; replace hr2e := Lib.hid hr2e; replace hP1 := Lib.hid hP1; replace hP2 := Lib.hid hP2; replace hrf6 := Lib.hid hrf6
    go_wp2_with fail
    refine (hsu2.out _ hrf6.out).mono ?_
    rintro e w7 ⟨rfl, hb7⟩
    have hB7 := hB6.out.below hb7
    clear y0 y1 y2 y3 y4 y5 y6 y7 y8 y9 y10 y11 y12
    by_cases g3 : r2 = 0
    rotate_left
    · have d3 : (r2 != (0 : Int)) = true := by rw [bne_iff_ne]; exact g3
      replace hb7 := Lib.hid hb7; replace hB7 := Lib.hid hB7; replace g3 := Lib.hid g3
      go_wp2
      go_ret
      exact ⟨rfl, hB7.out.low⟩
    have d3 : (r2 != (0 : Int)) = false := by rw [g3]; rfl
    have d4 : (r1 == (0 : Int)) = true := by rw [hmono.out g3]; rfl
    have y0 : w7.cell? ⟨w.heap.size, 0, none⟩ = some (.string user) := blk_cell (hB7.box) 0
    have y1 : w7.cell? ⟨w.heap.size, 1, none⟩ = some (.string part) := blk_cell (hB7.box) 1
    have y2 : w7.cell? ⟨w.heap.size, 2, none⟩ = some (.int .i64 nodes) := blk_cell (hB7.box) 2
    have y3 : w7.cell? ⟨w.heap.size, 3, none⟩ = some (.int .i64 da) := blk_cell (hB7.box) 3
    have y4 : w7.cell? ⟨w.heap.size, 4, none⟩ = some (.int .i64 db) := blk_cell (hB7.box) 4
    have y5 : w7.cell? ⟨w.heap.size, 5, none⟩ = some (.int .i64 dc) := blk_cell (hB7.box) 5
    have y6 : w7.cell? ⟨w.heap.size, 6, none⟩ = some (.int .i64 dd) := blk_cell (hB7.box) 6
    have y7 : w7.cell? ⟨w.heap.size, 7, none⟩ = some (.int .i64 wall) := blk_cell (hB7.box) 7
    have y8 : w7.cell? ⟨w.heap.size, 8, none⟩ = some (.int .i64 prio) := blk_cell (hB7.box) 8
    have y9 : w7.cell? ⟨w.heap.size, 9, none⟩ = some (.int .i64 array) := blk_cell (hB7.box) 9
    have y10 : w7.cell? ⟨w.heap.size, 10, none⟩ = some (.int .i64 retries) := blk_cell (hB7.box) 10
    have y11 : w7.cell? ⟨w.heap.size, 11, none⟩ = some (.bool held) := blk_cell (hB7.box) 11
    have y12 : w7.cell? ⟨w.heap.size, 12, none⟩ = some (.slice so an cp) := blk_cell (hB7.box) 12
    replace hb7 := Lib.hid hb7; replace hB7 := Lib.hid hB7; replace g3 := Lib.hid g3
    go_wp2_with fail
    refine (hsu1.out _ hb7.out).mono ?_
    rintro e w8 ⟨rfl, hb8⟩
    have hB8 := hB7.out.below hb8
    replace hb8 := Lib.hid hb8; replace hB8 := Lib.hid hB8
    go_wp2
    go_ret
    exact ⟨rfl, hB8.out.low⟩
end Go.Proofs.YteoihdkaoipocaaDoor

namespace Go.Proofs.YteoihdkaoipocaaDoor
open Go.ChangeShapes Go.WideShapes Go.ChangeAt Go.RowKit Go.ChangeMaps

set_option maxRecDepth 100000 in
theorem specSmaller_lifted (os : Os) (started : os.Started) (H : Type) (enc : TypeId × Value → H) (F : Stop.Interp) :
    ReturnsInHanded {} Tryd.checked os 11 .any ((Rows.OpenSpec.upto Rows.specSmallerSpec).preRow enc Tryd.prog Tryd.f11 Rows.specSmallerUptoRow.domain false Rows.specSmallerUptoRow.laid)
      (((Rows.OpenSpec.upto Rows.specSmallerSpec).at F).post enc Tryd.prog Tryd.f11 false true false false) := by
  have hlm := laidMet_laidAll (P := Tryd.prog) (os := os) (laid := Rows.specSmallerUptoRow.laid) #[.slice none 0 0, .agg #[.string ByteArray.empty, .string ByteArray.empty, .int .i64 0, .int .i64 0, .int .i64 0, .int .i64 0, .int .i64 0, .int .i64 0, .int .i64 0, .int .i64 0, .int .i64 0, .bool false, .slice none 0 0], .int .i64 0] (by kernel_rfl) (by kernel_rfl)
  have hx : ∃ places, DataW.whole enc Tryd.prog ((World.laidAll Tryd.prog os Rows.specSmallerUptoRow.laid).forCall (fun _ _ => 0) ⟨#[], #[.slice none 0 0, .agg #[.string ByteArray.empty, .string ByteArray.empty, .int .i64 0, .int .i64 0, .int .i64 0, .int .i64 0, .int .i64 0, .int .i64 0, .int .i64 0, .int .i64 0, .int .i64 0, .bool false, .slice none 0 0], .int .i64 0], []⟩).memory Tryd.f11.params.toList Rows.specSmallerSpec.vars false (#[.slice none 0 0, .agg #[.string ByteArray.empty, .string ByteArray.empty, .int .i64 0, .int .i64 0, .int .i64 0, .int .i64 0, .int .i64 0, .int .i64 0, .int .i64 0, .int .i64 0, .int .i64 0, .bool false, .slice none 0 0], .int .i64 0] : Array Value).toList 8 = some ([.nil, .agg [.lit (.string []), .lit (.string []), .lit (.int .i64 0), .agg [.lit (.int .i64 0), .lit (.int .i64 0), .lit (.int .i64 0), .lit (.int .i64 0)], .lit (.int .i64 0), .lit (.int .i64 0), .lit (.int .i64 0), .lit (.int .i64 0), .lit (.bool false), .nil], .lit (.int .i64 0)], [], places) := ⟨[], by kernel_rfl⟩
  obtain ⟨places, hx⟩ := hx
  refine returnsInHanded_of_row (C := Tryd.checked) (s := Rows.OpenSpec.upto Rows.specSmallerSpec) own started (by kernel_rfl) Tryd.func11
    (witness_row_at (enc := enc) (C := Tryd.checked) false (World.laidAll Tryd.prog os Rows.specSmallerUptoRow.laid) #[.slice none 0 0, .agg #[.string ByteArray.empty, .string ByteArray.empty, .int .i64 0, .int .i64 0, .int .i64 0, .int .i64 0, .int .i64 0, .int .i64 0, .int .i64 0, .int .i64 0, .int .i64 0, .bool false, .slice none 0 0], .int .i64 0] (World.laidAll_os _ _ _) (by kernel_rfl) (by kernel_rfl) (by kernel_rfl)
      (OpenSpec.preRow_of_cond 8 hx (by kernel_rfl) (fun k hk => by cases hk; kernel_rfl) (by kernel_rfl) (by rw [MakeChecks.laidMetH_plain _ _ _ (by kernel_rfl)]; exact hlm))) ?_
  intro W base args ds gs before hval0 hW _ hcond hsz hL hsh _
  have hbk := hcond _ rfl
  show Calls Tryd.prog 11 args W fun e W' => ∃ v, e = .returned v ∧ Rows.specSmallerSpec.post enc Tryd.prog Tryd.f11 false true false false W args v W'
  have hval : ∀ (j : Nat) t v, Tryd.f11.params[j]? = some t → args[j]? = some v → Value.okWide Tryd.prog W .any base t v := hval0
  have hW' := hW
  obtain ⟨p, q, hA0, hV, rfl, _, _⟩ := hW
  have hA : DataW.TrodAll enc Tryd.prog W 0 (fun _ => true) true Tryd.f11.params.toList args.toList ds p := hA0
  rw [Tryd.params11] at hA hval
  obtain ⟨v0, v1, v2, d0, d1, d2, p0, p1, p2, rfl, rfl, rfl, h0, h1, h2⟩ := trodAll_three hA
  obtain ⟨rfl, rfl⟩ := trodVars_none hV
  obtain ⟨ao0, n0, c0, xs0, rfl, hx0, hnc0, hwt0⟩ := open_nodesB (hval 0 42 v0 rfl rfl) h0
  obtain ⟨x1, rfl, hx1⟩ := open_spec (hval 1 28 v1 rfl rfl) h1
  obtain ⟨x2, rfl, rfl, rfl, hx2⟩ := open_int Tryd.underlying3 (hval 2 3 v2 rfl rfl) h2
  clear hA0 hval0
  have hbk2 : Rows.uptoBulkAll [_, _, _] ≤ 1048576 := of_decide_eq_true hbk
  simp only [Rows.uptoBulkAll] at hbk2
  refine (ssmaller_any ao0 n0 c0 xs0 x1 x2 W hx0 hnc0 (by have h := textA_wt xs0 (fun x hx => (nds_mem hx0 x hx).v); have hl := len_wt xs0; omega) hx1 (mx_shaped hsh) (tb_of_laid (fun w => MakeChecks.laidMetH_plain _ _ w (by kernel_rfl)) hL) (wf_bd hx2).1 (wf_bd hx2).2).mono fun e W' ⟨he, hw⟩ => ?_
  subst he
  refine ⟨_, rfl, post_of_below hW' rfl (fun _ _ _ => ?_) rfl rfl hw ?_⟩
  · have hrt : Tryd.f11.resultTypes = #[4] := by kernel_rfl
    rw [hrt]
    exact trodAll_mk1 ⟨1, by simp [DataW.trod, Value.cells, Tryd.underlying4]⟩
  · rw [Tryd.params11]
    intro t ht
    have hm : t ∈ [42, 28, 3] := by simpa using ht
    have hall : ([42, 28, 3].all fun u => Tryd.prog.readableRec u && decide (u < Tryd.prog.types.size)) = true := by kernel_rfl
    have := List.all_eq_true.1 hall t hm
    rw [Bool.and_eq_true] at this
    exact ⟨this.1, of_decide_eq_true this.2⟩
theorem specSmaller_row : Rows.SpecSmallerUptoSaid :=
  OpenClaim.holds_of_cond 11 Tryd.f11 rfl rfl rfl rfl rfl rfl rfl ⟨rfl, rfl, rfl, rfl, rfl⟩ rfl rfl rfl rfl rfl (by kernel_rfl) Tryd.func11 (by kernel_rfl)
    (of_decide_eq_true (by kernel_rfl)) (by unfold Func.isWrapper; first | (rw [if_pos (by decide +kernel)]; kernel_rfl) | (rw [if_neg (by decide +kernel)]; exact ⟨rfl, rfl⟩))
    (fun os started H enc _ F => by rw [OpenClaim.pre_eq_preRow]; exact specSmaller_lifted os started H enc F)
theorem specSmaller_holds : Rows.SpecSmallerUptoCardSaid :=
  Claim7.holds_tied_plain_at .later [] [.data, .data, .data, .data, .pinned] true (true, "d7ca3db8da485ca0b11e68421f68137e81c97920c528271bb1d28dc3225d4cd7") false specSmaller_row (fun _ h => by cases h) (by kernel_rfl) (fun _ h => by cases h) specSmallerUpto_row_tie rfl ⟨rfl, rfl⟩ (by kernel_rfl) rfl
    (fun f fn hf hfn => by
      obtain rfl : f = 11 := Option.some.inj ((show Tryd.prog.funcNamed "corvee/corveelaw08.SpecSmaller" = some 11 by kernel_rfl).symm.trans hf) |>.symm
      obtain rfl : fn = Tryd.f11 := (Option.some.inj (Tryd.func11.symm.trans hfn)).symm
      exact ⟨by kernel_rfl, fun j t ht => by
        rw [Tryd.params11] at ht
        have hm : t ∈ [42, 28, 3] := by simpa using Array.mem_of_getElem? ht
        have hall : ([42, 28, 3].all fun u => !Tryd.prog.wantsStandIn u) = true := by kernel_rfl
        exact (show Tryd.prog.wantsStandIn t = false by simpa using List.all_eq_true.1 hall t hm)⟩)
    (by kernel_rfl)
end Go.Proofs.YteoihdkaoipocaaDoor
