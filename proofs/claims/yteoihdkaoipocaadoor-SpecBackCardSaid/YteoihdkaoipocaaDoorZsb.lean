/- What a spec tells is parsed as it, its words in any order: for every input the law returns true, and each argument reads behind the call as it read before. The listed variables are laid and tied. No further condition. -/
import Derived.Test.YteoihdkaoipocaaDoorQa
import Derived.Test.YteoihdkaoipocaaDoorRows
import Derived.Test.YteoihdkaoipocaaDoorTie
import Derived.Test.YteoihdkaoipocaaDoorCards
import Derived.ProofKit
import Derived.OpenShut
import Derived.LaidMore
import Derived.Lay
import Derived.SevenTiedAt
import Derived.Stop.Joined
import Derived.Shelf.Vars
import Derived.Test.YteoihdkaoipocaaDoorQb
import Derived.Stop.LaidErr
import Derived.Lib.LaidTab
import Derived.Deep.Slices
import Derived.Lib.SmallJoins
import Derived.Test.YteoihdkaoipocaaDoorQd
import Derived.Test.YteoihdkaoipocaaDoorQe
import Derived.Deep.DeepCutAuto
/- What every row of this seat uses: the world's shape beside the laid variables; the variable MaxLen holds a number. -/
namespace Go.Proofs.YteoihdkaoipocaaDoor
open Go.ChangeShapes Go.WideShapes Go.ChangeAt Go.RowKit

theorem own : ownKnob Tryd.prog.godebug = none := by kernel_rfl
theorem mx_shaped {W : World} (h : W.ShapedOpen Tryd.prog) : Mx W :=
  cell_of_shapedOpen_int (g := 0) (t := 3) (zero := #[.int .i64 0]) h (of_decide_eq_true (by kernel_rfl)) (by kernel_rfl) rfl (by kernel_rfl) (by kernel_rfl) Tryd.underlying3
variable {H : Type} {enc : TypeId × Value → H}
theorem returns_laid {a : Assume} {C : Checked} {os : Os} {f : FuncId} {fn : Func} {s : ChangeSpec} {conds : List PathCond} {apart fresh handsOn again : Bool} {X : World → Array Value → Prop}
    (hX : ∀ (w w' : World) (args : Array Value), w.heap = w'.heap → X w args → X w' args)
    (own : ownKnob C.prog.godebug = none) (started : os.Started) (noInit : C.prog.inits.idxOf? f = none) (hfn : C.prog.funcs[f]? = some fn)
    (witness : ∃ (w : World) (tape : Tape) (i : Input), w.os = os ∧ (w.forCall tape i).Shaped C.prog ∧ i.vars = [] ∧ Input.okWide C.prog (w.forCall tape i) .any w.heap.size f i ∧
      ((s.pre enc C.prog fn conds apart (w.forCall tape i).memory i.args ∧ X (w.forCall tape i).memory i.args) ∧ sizedMet enc C.prog fn (OpenSpec.ofChange s) apart (w.forCall tape i).memory i.args) ∧ a.holds C.prog (lone (Frame.enter C.prog f i.args .normal) [] (w.forCall tape i)))
    (contract : ∀ (W : World) (base : Nat) (args : Array Value) (ds gs : List (DataW H)) (before : List MemPlace),
      (∀ (j : Nat) t v, fn.params[j]? = some t → args[j]? = some v → Value.okWide C.prog W .any base t v) →
      DataW.Whole enc C.prog fn.params.toList s.vars apart W args.toList ds gs before →
      (DataW.weightsEach C.prog (fn.params.toList ++ s.plain.varTypes C.prog) (ds ++ gs)).all (· ≤ reachBytes) = true → X W args → W.ShapedOpen C.prog →
      Calls C.prog f args W fun e W' => ∃ v, e = .returned v ∧ s.post enc C.prog fn apart fresh handsOn again W args v W') :
    ReturnsInHanded a C os f .any (fun w args => (s.pre enc C.prog fn conds apart w args ∧ X w args) ∧ sizedMet enc C.prog fn (OpenSpec.ofChange s) apart w args) (s.post enc C.prog fn apart fresh handsOn again) := by
  refine returnsInHanded_of_calls own started noInit witness ?_
  intro w tape i _ hsh _ hok hpre hholds
  obtain ⟨_, _, _, fn', hfn', _, _, _, _, hval⟩ := hok
  have e : fn' = fn := Option.some.inj (hfn'.symm.trans hfn)
  subst e
  obtain ⟨⟨⟨ds, gs, before, hw, hc⟩, hx⟩, hz⟩ := hpre
  have hw' := DataW.Whole.of_heap (w' := w.forCall tape i) (by rfl) hw
  refine (contract (w.forCall tape i) w.heap.size i.args ds gs before hval hw' (hz.weights hw) (hX _ _ _ (by rfl) hx) hsh).mono fun e W' ⟨v, he, hp⟩ => ?_
  subst he
  exact ChangeSpec.post_blind hp
theorem laidOut : laidOutB Tryd.prog = true := by kernel_rfl
theorem trodAll_below {W W' : World} (hb : Below W.heap.size W W') : ∀ (ts : List TypeId) (vs : List Value) (ds : List (DataW H)) (ps : List MemPlace),
    DataW.TrodAll enc Tryd.prog W 0 (fun _ => true) true ts vs ds ps → (∀ x ∈ ps, x.block < W.heap.size) → (∀ t ∈ ts, Tryd.prog.readableRec t = true ∧ t < Tryd.prog.types.size) →
    DataW.TrodAll enc Tryd.prog W' 0 (fun b => decide (b < W.heap.size)) true ts vs ds ps
  | [], [], [], _, h, _, _ => h
  | [], _ :: _, _, _, h, _, _ => h.elim
  | [], [], _ :: _, _, h, _, _ => h.elim
  | _ :: _, [], _, _, h, _, _ => h.elim
  | _ :: _, _ :: _, [], _, h, _, _ => h.elim
  | t :: ts, v :: vs, d :: ds, ps, h, hlt, hr => by
    obtain ⟨p, q, h1, h2, rfl⟩ := h
    obtain ⟨r1, r2⟩ := hr t (by simp)
    exact ⟨p, q, Below.trod laidOut r1 r2 h1 hb (fun x hx => hlt x (by simp [hx])), trodAll_below hb ts vs ds q h2 (fun x hx => hlt x (by simp [hx])) (fun u hu => hr u (by simp [hu])), rfl⟩

theorem post_of_below {f : Func} {s : ChangeSpec} {apart fresh handsOn : Bool} {W W' : World} {args : Array Value} {v : Value} {ds gs : List (DataW H)} {before : List MemPlace}
    (hW : DataW.Whole enc Tryd.prog f.params.toList s.vars apart W args.toList ds gs before) (hs : s.vars = []) 
    (hres : ∀ (b : Nat) (sp : Nat → Bool) (hd : Bool), DataW.TrodAll enc Tryd.prog W' b sp hd f.resultTypes.toList (v.resultList f.resultTypes.size) (s.fn H (ds ++ gs)).results [])
    (hargs : (s.fn H (ds ++ gs)).args = ds) (hv : (s.fn H (ds ++ gs)).vars = []) (hb : Below W.heap.size W W')
    (hr : ∀ t ∈ f.params.toList, Tryd.prog.readableRec t = true ∧ t < Tryd.prog.types.size) :
    s.post enc Tryd.prog f apart fresh handsOn false W args v W' := by
  have hlt := hW.lt
  have hW' := hW
  obtain ⟨p, q, hA, hV, rfl, hfz, hnd⟩ := hW
  rw [hs] at hV
  obtain ⟨rfl, rfl⟩ := trodVars_none hV
  refine ⟨ds, [], p ++ [], [], p, [], hW', hres _ _ _, ?_, ?_, hb.frame _, fun h => by simp at h⟩
  · rw [hargs]
    exact trodAll_below hb _ _ _ _ hA (fun x hx => by simpa using hlt x (by simp [hx])) hr
  · rw [hv, hs]
    rfl
end Go.Proofs.YteoihdkaoipocaaDoor

/- From a row's condition to the library's table of powers of ten. -/
namespace Go.Proofs.YteoihdkaoipocaaDoor
open Go.RowKit

theorem pow_eq : (Rows.laid_internal_strconv_uint64pow10 : DataW Unit) = Lib.tabData .u64 Lib.pow10Tab := by kernel_rfl
theorem tb_of_laid {W : World} {a b : String × DataW Unit} {r : List (String × DataW Unit)} (hp : ∀ w, laidMetH Tryd.prog (a :: b :: ("internal/strconv.uint64pow10", Rows.laid_internal_strconv_uint64pow10) :: r) w = laidMet Tryd.prog (a :: b :: ("internal/strconv.uint64pow10", Rows.laid_internal_strconv_uint64pow10) :: r) w)
    (h : laidMetH Tryd.prog (a :: b :: ("internal/strconv.uint64pow10", Rows.laid_internal_strconv_uint64pow10) :: r) W) : Tb W := by
  rw [hp] at h
  have h2 := h.tail.tail
  rw [pow_eq] at h2
  exact Lib.tabBelow_of_tabIs (Lib.tabIs_of_head (g := 1) (t := 201) (e := 153) (n := 20) (by kernel_rfl) (by kernel_rfl) (by kernel_rfl) (by kernel_rfl) (by kernel_rfl) (by kernel_rfl) h2)
end Go.Proofs.YteoihdkaoipocaaDoor

/- What an argument that is a row of nodes reads as, opened. Plain theorems: no condition. -/
namespace Go.Proofs.YteoihdkaoipocaaDoor
open Go.ChangeShapes Go.WideShapes Go.ChangeAt Go.RowKit

theorem cel3 : Tryd.prog.cellsOf 3 = 1 := by kernel_rfl
theorem cel9 : Tryd.prog.cellsOf 9 = 1 := by kernel_rfl
theorem cel25 : Tryd.prog.cellsOf 25 = 4 := by kernel_rfl
theorem cel36 : Tryd.prog.cellsOf 36 = 1 := by kernel_rfl
theorem cel48 : Tryd.prog.cellsOf 48 = 6 := by kernel_rfl
theorem list4o {α : Type} {l : List α} (h : l.length = 4) : ∃ a b c d, l = [a, b, c, d] := by
  match l, h with
  | [a, b, c, d], _ => exact ⟨a, b, c, d, rfl⟩
theorem list6o {α : Type} {l : List α} (h : l.length = 6) : ∃ a b c d e f, l = [a, b, c, d, e, f] := by
  match l, h with
  | [a, b, c, d, e, f], _ => exact ⟨a, b, c, d, e, f, rfl⟩
theorem choose_belowo {α : Type} {n : Nat} {p : Nat → α → Prop} (z : α) (h : ∀ i, i < n → ∃ x, p i x) : ∃ f : Nat → α, ∀ i, i < n → p i (f i) :=
  ⟨fun i => if hi : i < n then (h i hi).choose else z, fun i hi => by simp only [hi, dif_pos]; exact (h i hi).choose_spec⟩
theorem add_plain_o (b off k : Nat) : (⟨b, off, none⟩ : Addr).add k = ⟨b, off + k, none⟩ := by unfold Addr.add; cases k <;> rfl

structure RowsO {α : Type} (cells : α → Array Value) (sz : Nat) (ok : World → α → Prop) (w : World) (so : Option Addr) (n : Nat) (xs : List α) : Prop where
  len : xs.length = n
  max : n ≤ 9223372036854775807
  cell : ∀ i x, xs[i]? = some x → ∃ b off, so = some ⟨b, off, none⟩ ∧ b < w.heap.size ∧ (∀ j, j < sz → w.cell? ⟨b, off + i * sz + j, none⟩ = (cells x)[j]?) ∧ ok w x
/-- a node of an argument -/
structure NdA (w : World) (x : Nde) : Prop where
  ok : x.ok w
  name : x.name.size ≤ maxLen
  parts : ∀ p, p ∈ x.parts → p.size ≤ maxLen
abbrev NdsAt (w : World) (so : Option Addr) (n : Nat) (xs : List Nde) : Prop := RowsO Nde.cells 6 NdA w so n xs
theorem NdsAt.low {w w' : World} {so : Option Addr} {n : Nat} {xs : List Nde} (h : NdsAt w so n xs) (hb : Below w.heap.size w w') : NdsAt w' so n xs :=
  ⟨h.len, h.max, fun i x hx => by
    obtain ⟨b, off, e, hlt, hc, ho⟩ := h.cell i x hx
    exact ⟨b, off, e, Nat.lt_of_lt_of_le hlt hb.size, fun j hj => (below_cell hb hlt).trans (hc j hj), ho.ok.low hb, ho.name, ho.parts⟩⟩

section
variable {H : Type} {enc : TypeId × Value → H} {w : World} {held : Bool} {fuel : Nat} {cs : List Value} {x : DataW H × List MemPlace}
theorem rowsO_of_trod {α : Type} (z : α) (cells : α → Array Value) (sz : Nat) (ok : World → α → Prop) {T E : TypeId} (hU : Tryd.prog.underlying T = some (.slice E)) (hc : Tryd.prog.cellsOf E = sz) (h0 : 0 < sz) (hsz : ∀ a, (cells a).size = sz)
    (hone : ∀ (fuel : Nat) (cs : List Value) (x : DataW H × List MemPlace), DataW.trod enc Tryd.prog w 0 (fun _ => true) held fuel E cs = some x → ∃ a, cs = (cells a).toList ∧ ok w a)
    {c : Value} (h : DataW.trod enc Tryd.prog w 0 (fun _ => true) held fuel T [c] = some x) : ∃ ao n cp xs, c = .slice ao n cp ∧ RowsO cells sz ok w ao n xs ∧ n ≤ cp := by
  rcases Go.Deep.open_slice hU h with ⟨hcs, _⟩ | ⟨a, len, cap, m, n, D, Pl, hcs, _, hl, hm, hmm, _, hi⟩
  · simp at hcs
    exact ⟨none, 0, 0, [], hcs, ⟨rfl, by omega, fun i x hx => by simp at hx⟩, Nat.le_refl _⟩
  · simp at hcs
    have mx : maxLen = 9223372036854775807 := by kernel_rfl
    have hmc : m = cap := by simpa using hmm
    have hc : ∀ i, i < len → ∃ x : α, ok w x ∧ ∀ j, j < sz → w.cell? (a.add (i * sz + j)) = (cells x)[j]? := fun i hil => by
      obtain ⟨cs', hc', ht⟩ := hi i (by omega)
      obtain ⟨x, rfl, ok⟩ := hone _ _ _ ht
      obtain ⟨_, _, hat⟩ := World.cells?_some hc'
      rw [hc] at hat
      exact ⟨x, ok, fun j hj => by rw [← Go.Deep.add_add, hat j hj]; simp⟩
    obtain ⟨f, hf2⟩ := choose_belowo z hc
    refine ⟨some a, len, cap, (List.range len).map f, hcs, ⟨by simp, by rw [mx] at hm; omega, fun i x hx => ?_⟩, hl⟩
    have hil : i < len := by
      have := (List.getElem?_eq_some_iff.1 hx).1
      simpa using this
    have hxe : x = f i := by
      rw [List.getElem?_map, List.getElem?_range hil] at hx
      simpa using hx.symm
    subst hxe
    have hz : ∀ i, i < len → (cells (f i))[0]? = some ((cells (f i))[0]'(by rw [hsz]; exact h0)) := fun i _ => by
      rw [Array.getElem?_eq_getElem]
    have h00 := (hf2 0 (by omega)).2 0 h0
    rw [hz 0 (by omega)] at h00
    obtain ⟨b, off, spot⟩ := a
    have hsp : spot = none := by simpa [Addr.add] using World.cell?_spot h00
    subst hsp
    have e : ∀ j, j < sz → w.cell? ⟨b, off + i * sz + j, none⟩ = (cells (f i))[j]? := fun j hj => by
      rw [← (hf2 i hil).2 j hj, add_plain_o, Nat.add_assoc]
    have e0 := e 0 h0
    rw [hz i hil] at e0
    exact ⟨b, off, rfl, World.block_lt_of_cell? w _ e0, e, (hf2 i hil).1⟩
theorem strsO_of_trod {c : Value} (h : DataW.trod enc Tryd.prog w 0 (fun _ => true) held fuel 36 [c] = some x) : ∃ ao n cp xs, c = .slice ao n cp ∧ StrsAt w ao n xs ∧ (∀ p, p ∈ xs → p.size ≤ maxLen) ∧ n ≤ cp := by
  obtain ⟨ao, n, cp, xs, e, hr, hn⟩ := rowsO_of_trod ByteArray.empty (fun s => #[.string s]) 1 (fun _ s => s.size ≤ maxLen) Tryd.underlying36 cel9 (by decide) (fun _ => rfl) (fun fuel cs x h => by
    obtain ⟨s, e, _, hs⟩ := DataW.trod_string Tryd.underlying9 h
    exact ⟨s, e, hs⟩) h
  refine ⟨ao, n, cp, xs, e, ⟨hr.len, hr.max, fun i x hx => ?_⟩, fun p hp => ?_, hn⟩
  · obtain ⟨b, off, e, hlt, hc, _⟩ := hr.cell i x hx
    have := hc 0 (by omega)
    rw [Nat.mul_one, Nat.add_zero] at this
    exact ⟨b, off, e, hlt, this⟩
  · obtain ⟨i, hi⟩ := List.mem_iff_getElem?.1 hp
    obtain ⟨_, _, _, _, _, h⟩ := hr.cell i p hi
    exact h
theorem vecO_of_trod (h : DataW.trod enc Tryd.prog w 0 (fun _ => true) held fuel 25 cs = some x) : ∃ v : V4, cs = v.cells.toList := by
  obtain ⟨xs, m, _, _, hl, hn, hi⟩ := DataW.trod_array Tryd.underlying25 h
  rw [cel25] at hl
  obtain ⟨c0, c1, c2, c3, rfl⟩ := list4o hl
  have one : ∀ i, i < 4 → ∀ c : Value, (([c0, c1, c2, c3].drop (i * Tryd.prog.cellsOf 3)).take (Tryd.prog.cellsOf 3)) = [c] → ∃ n, c = .int .i64 n := fun i h4 c hc => by
    have h1 := hi i h4
    rw [hc, List.getElem?_eq_getElem (by omega)] at h1
    obtain ⟨n, e, _⟩ := DataW.trod_int Tryd.underlying3 h1
    exact ⟨n, by simpa using e⟩
  obtain ⟨n0, rfl⟩ := one 0 (by omega) c0 (by simp [cel3])
  obtain ⟨n1, rfl⟩ := one 1 (by omega) c1 (by simp [cel3])
  obtain ⟨n2, rfl⟩ := one 2 (by omega) c2 (by simp [cel3])
  obtain ⟨n3, rfl⟩ := one 3 (by omega) c3 (by simp [cel3])
  exact ⟨⟨n0, n1, n2, n3⟩, rfl⟩
theorem node_of_trod (h : DataW.trod enc Tryd.prog w 0 (fun _ => true) held fuel 48 cs = some x) : ∃ a : Nde, cs = a.cells.toList ∧ NdA w a := by
  obtain ⟨xs, n, _, rfl, hl, hlen, hf⟩ := DataW.trod_struct Tryd.underlying48 h
  rw [cel48] at hl
  obtain ⟨c0, c1, c2, c3, c4, c5, rfl⟩ := list6o hl
  match xs, hlen with
  | [y0, y1, y2], _ =>
    have h0 := hf 0 _ rfl; have h1 := hf 1 _ rfl; have h2 := hf 2 _ rfl
    simp [cel9, cel25, cel36] at h0 h1 h2
    obtain ⟨s, e0, _, hs⟩ := DataW.trod_string Tryd.underlying9 h0
    obtain ⟨v, ev⟩ := vecO_of_trod h1
    obtain ⟨po, pn, pc, ps, rfl, hp, hps, hpc⟩ := strsO_of_trod h2
    simp at e0 ev
    obtain ⟨rfl, rfl, rfl, rfl⟩ := ev
    subst e0
    exact ⟨⟨s, v, po, pn, pc, ps⟩, rfl, ⟨hp, hpc⟩, hs, hps⟩
end
section
variable {H : Type} {enc : TypeId × Value → H} {w : World} {held : Bool} {b0 : Nat} {r : Reach} {v : Value} {d : DataW H} {p : List MemPlace}
set_option maxRecDepth 100000 in
theorem open_nodes (hv : Value.okWide Tryd.prog w r b0 42 v) (h : DataW.Trod enc Tryd.prog w 0 (fun _ => true) held 42 v d p) : ∃ ao n cp xs, v = .slice ao n cp ∧ NdsAt w ao n xs := by
  obtain ⟨fuel, hf⟩ := h
  have hvc : v.cells.toList = [v] := by
    simp only [Value.okWide, Tryd.underlying42, Cell.okWide] at hv
    cases v <;> simp_all [Value.cells, Cell.ok]
  rw [hvc] at hf
  obtain ⟨ao, n, cp, xs, e, hr, _⟩ := rowsO_of_trod Nde.zero Nde.cells 6 NdA Tryd.underlying42 cel48 (by decide) (fun _ => rfl) (fun _ _ _ h => node_of_trod h) hf
  exact ⟨ao, n, cp, xs, e, hr⟩
end
end Go.Proofs.YteoihdkaoipocaaDoor

/- What an argument that is a spec reads as, opened. Plain theorems: no condition. -/
namespace Go.Proofs.YteoihdkaoipocaaDoor
open Go.ChangeShapes Go.WideShapes Go.ChangeAt Go.RowKit

theorem wf_bd {n : Int} (h : (Lit.int .i64 n).wf = true) : -9223372036854775808 ≤ n ∧ n ≤ 9223372036854775807 := by
  simp [Lit.wf, IntKind.min, IntKind.max, IntKind.signed, IntKind.bits] at h
  omega
theorem cel4 : Tryd.prog.cellsOf 4 = 1 := by kernel_rfl
theorem cel26 : Tryd.prog.cellsOf 26 = 1 := by kernel_rfl
theorem cel28 : Tryd.prog.cellsOf 28 = 13 := by kernel_rfl
theorem list13o {α : Type} {l : List α} (h : l.length = 13) : ∃ a b c d e f g i j k m n o, l = [a, b, c, d, e, f, g, i, j, k, m, n, o] := by
  match l, h with
  | [a, b, c, d, e, f, g, i, j, k, m, n, o], _ => exact ⟨a, b, c, d, e, f, g, i, j, k, m, n, o, rfl⟩
section
variable {H : Type} {enc : TypeId × Value → H} {w : World} {held : Bool} {fuel : Nat} {cs : List Value} {x : DataW H × List MemPlace}
theorem intsO_of_trod {c : Value} (h : DataW.trod enc Tryd.prog w 0 (fun _ => true) held fuel 26 [c] = some x) : ∃ ao n cp xs, c = .slice ao n cp ∧ IntsAt w ao n xs ∧ n ≤ cp := by
  obtain ⟨ao, n, cp, xs, e, hr, hn⟩ := rowsO_of_trod (0 : Int) (fun s => #[.int .i64 s]) 1 (fun _ _ => True) Tryd.underlying26 cel3 (by decide) (fun _ => rfl) (fun fuel cs x h => by
    obtain ⟨s, e, _⟩ := DataW.trod_int Tryd.underlying3 h
    exact ⟨s, e, trivial⟩) h
  refine ⟨ao, n, cp, xs, e, ⟨hr.len, hr.max, fun i x hx => ?_⟩, hn⟩
  obtain ⟨b, off, e, hlt, hc, _⟩ := hr.cell i x hx
  have := hc 0 (by omega)
  rw [Nat.mul_one, Nat.add_zero] at this
  exact ⟨b, off, e, hlt, this⟩
set_option maxRecDepth 100000 in
theorem spec_of_trod (h : DataW.trod enc Tryd.prog w 0 (fun _ => true) held fuel 28 cs = some x) : ∃ a : Spv, cs = a.cells.toList ∧ a.ok w := by
  obtain ⟨xs, n, _, rfl, hl, hlen, hf⟩ := DataW.trod_struct Tryd.underlying28 h
  rw [cel28] at hl
  obtain ⟨c0, c1, c2, c3, c4, c5, c6, c7, c8, c9, c10, c11, c12, rfl⟩ := list13o hl
  match xs, hlen with
  | [y0, y1, y2, y3, y4, y5, y6, y7, y8, y9], _ =>
    have h0 := hf 0 _ rfl; have h1 := hf 1 _ rfl; have h2 := hf 2 _ rfl; have h3 := hf 3 _ rfl; have h4 := hf 4 _ rfl; have h5 := hf 5 _ rfl; have h6 := hf 6 _ rfl; have h7 := hf 7 _ rfl; have h8 := hf 8 _ rfl; have h9 := hf 9 _ rfl
    simp [cel9, cel25, cel3, cel4, cel26] at h0 h1 h2 h3 h4 h5 h6 h7 h8 h9
    obtain ⟨s0, e0, _, hs0⟩ := DataW.trod_string Tryd.underlying9 h0
    obtain ⟨s1, e1, _, hs1⟩ := DataW.trod_string Tryd.underlying9 h1
    obtain ⟨n2, e2, _⟩ := DataW.trod_int Tryd.underlying3 h2
    obtain ⟨v, ev⟩ := vecO_of_trod h3
    obtain ⟨n4, e4, _⟩ := DataW.trod_int Tryd.underlying3 h4
    obtain ⟨n5, e5, _⟩ := DataW.trod_int Tryd.underlying3 h5
    obtain ⟨n6, e6, _⟩ := DataW.trod_int Tryd.underlying3 h6
    obtain ⟨n7, e7, _⟩ := DataW.trod_int Tryd.underlying3 h7
    obtain ⟨b8, e8, _⟩ := DataW.trod_bool Tryd.underlying4 h8
    obtain ⟨so, m, cp, zs, rfl, hz, hmc⟩ := intsO_of_trod h9
    simp at e0 e1 e2 ev e4 e5 e6 e7 e8
    obtain ⟨rfl, rfl, rfl, rfl⟩ := ev
    subst e0 e1 e2 e4 e5 e6 e7 e8
    exact ⟨⟨⟨s0, s1, n2, v, n4, n5, n6, n7, b8, zs⟩, so, m, cp⟩, rfl, ⟨hz, hmc, hs0, hs1⟩⟩
end
section
variable {H : Type} {enc : TypeId × Value → H} {w : World} {held : Bool} {b0 : Nat} {r : Reach} {v : Value} {d : DataW H} {p : List MemPlace}
set_option maxRecDepth 100000 in
theorem open_spec (hv : Value.okWide Tryd.prog w r b0 28 v) (h : DataW.Trod enc Tryd.prog w 0 (fun _ => true) held 28 v d p) : ∃ a : Spv, v = a.val ∧ a.ok w := by
  obtain ⟨fuel, hf⟩ := h
  obtain ⟨cs, rfl⟩ : ∃ cs, v = .agg cs := by
    simp only [Value.okWide, Tryd.underlying28] at hv
    cases v <;> simp_all
  obtain ⟨a, e, hok⟩ := spec_of_trod hf
  refine ⟨a, ?_, hok⟩
  have e2 : cs = a.cells := Array.toList_inj.1 e
  rw [e2]
end
end Go.Proofs.YteoihdkaoipocaaDoor

/- corveelaw08.SpecBack: what a spec tells is parsed as it, its words in any order. -/
namespace Go.Proofs.YteoihdkaoipocaaDoor
open Go.RowKit Go.Maps Go.Shelf Go.Sort

def rotP (P : List (ByteArray × List UInt8)) (k : Nat) : List (ByteArray × List UInt8) := P.drop k ++ P.take k
theorem rotP_perm (P : List (ByteArray × List UInt8)) (k : Nat) : (rotP P k).Perm P := by
  unfold rotP
  refine List.perm_append_comm.trans ?_
  rw [List.take_append_drop]
theorem rotP_get {P : List (ByteArray × List UInt8)} {k i : Nat} (hk : k < P.length) (hi : i < P.length) : (rotP P k)[i]? = P[(i + k) % P.length]? := by
  unfold rotP
  by_cases h : i + k < P.length
  · rw [List.getElem?_append_left (by rw [List.length_drop]; omega), List.getElem?_drop, Nat.mod_eq_of_lt h, Nat.add_comm]
  · rw [List.getElem?_append_right (by rw [List.length_drop]; omega), List.length_drop, List.getElem?_take_of_lt (by omega)]
    have : (i + k) % P.length = i + k - P.length := by
      rw [Nat.mod_eq_sub_mod (by omega), Nat.mod_eq_of_lt (by omega)]
    rw [this]
    congr 1
    omega
theorem rotP_len (P : List (ByteArray × List UInt8)) (k : Nat) : (rotP P k).length = P.length := (rotP_perm P k).length_eq
/-- the text so far -/
def rotT (P : List (ByteArray × List UInt8)) (k i : Nat) : List UInt8 := Lib.join (kvs ((rotP P k).take i)) [32]
theorem rotT_step {P : List (ByteArray × List UInt8)} {k i : Nat} (hk : k < P.length) (hi : i < P.length) {p : ByteArray × List UInt8} (hp : P[(i + k) % P.length]? = some p) : rotT P k (i + 1) = rotT P k i ++ (if i = 0 then [] else [32]) ++ kv p.1 p.2 := by
  unfold rotT
  rw [List.take_add_one, rotP_get hk hi, hp]
  have e : kvs ((rotP P k).take i ++ (some p).toList) = kvs ((rotP P k).take i) ++ [kv p.1 p.2] := by simp [kvs]
  rw [e]
  by_cases c : i = 0
  · subst c
    simp [kvs, Lib.join, List.intercalate]
  · rw [if_neg c]
    refine inter_snoc [32] (kv p.1 p.2) _ fun h => ?_
    have := congrArg List.length h
    simp only [kvs, List.length_map, List.length_take, rotP_len, List.length_nil] at this
    omega
theorem rotT_all (P : List (ByteArray × List UInt8)) (k : Nat) : rotT P k P.length = Lib.join (kvs (rotP P k)) [32] := by
  unfold rotT
  rw [List.take_of_length_le (by rw [rotP_len]; exact Nat.le_refl _)]
theorem rotT_len {s : Spp} (hs : mayS s = true) (k i : Nat) : (rotT (pairsS s) k i).length ≤ 1810 := by
  unfold rotT
  refine join_size hs (fun p hp => (rotP_perm _ k).mem_iff.1 (List.mem_of_mem_take hp)) ?_
  rw [List.length_take, rotP_len]
  have := pairs_len s
  omega
structure TurnC (t : Int) (W : World) (tv : Value) (wx : World) : Prop where
  t : tv = .int .i64 t
  w : W = wx

set_option maxRecDepth 100000 in
set_option maxHeartbeats 6400000 in
theorem sback_any (x : Spv) (turn : Int) (w : World) (hx : x.ok w) (hm : Mx w) (ht : Tb w) (ht0 : -9223372036854775808 ≤ turn) (ht1 : turn ≤ 9223372036854775807) : Calls Tryd.prog 6 #[x.val, .int .i64 turn] w fun e w' => e = .returned (.bool true) ∧ Below w.heap.size w w' := by
  have hB0 := BoxC.new w x
  have hc1 := awake8 (w.alloc (.cells x.cells 28 (0, 0))) (hm.low hB0.low) (ht.low hB0.low)
  have hk1 : ∀ W, BoxC w x W → Calls Tryd.prog 25 #[x.val] W fun e w' => e = .returned (.int .i64 (errS x.pl)) ∧ Below W.heap.size W w' := fun W h => check_any x W (h.ok hx)
  have hk3 : ∀ W, BoxC w x W → Calls Tryd.prog 27 #[x.val] W fun e w' => e = .returned (.string (ofL (textS x.pl))) ∧ Below W.heap.size W w' := fun W h => stext_any x W (h.ok hx) (ht.low h.low)
  by_cases q1 : 1000 < x.n
  · obtain ⟨⟨user, part, nodes, ⟨da, db, dc, dd⟩, wall, prio, array, retries, held, after⟩, so, n, cp⟩ := x
    have d1 : decide ((1000 : Int) < n) = true := decide_eq_true (by show (1000 : Int) < n; have : 1000 < n := q1; omega)
    have d1' : decide (1000 < n) = true := decide_eq_true q1
    replace hc1 := Lib.hid hc1; replace hB0 := Lib.hid hB0; replace hx := Lib.hid hx; replace hm := Lib.hid hm; replace ht := Lib.hid ht; replace hk1 := Lib.hid hk1; replace hk3 := Lib.hid hk3; replace q1 := Lib.hid q1
    go_enter Tryd.func6, Tryd.ntmps6
    go_wp2_with fail
    refine hc1.out.mono ?_
    rintro e w1 ⟨rfl, hb1⟩
    have hB1 := hB0.out.below hb1
    have y0 : w1.cell? ⟨w.heap.size, 0, none⟩ = some (.string user) := blk_cell (hB1.box) 0
    have y1 : w1.cell? ⟨w.heap.size, 1, none⟩ = some (.string part) := blk_cell (hB1.box) 1
    have y2 : w1.cell? ⟨w.heap.size, 2, none⟩ = some (.int .i64 nodes) := blk_cell (hB1.box) 2
    have y3 : w1.cell? ⟨w.heap.size, 3, none⟩ = some (.int .i64 da) := blk_cell (hB1.box) 3
    have y4 : w1.cell? ⟨w.heap.size, 4, none⟩ = some (.int .i64 db) := blk_cell (hB1.box) 4
    have y5 : w1.cell? ⟨w.heap.size, 5, none⟩ = some (.int .i64 dc) := blk_cell (hB1.box) 5
    have y6 : w1.cell? ⟨w.heap.size, 6, none⟩ = some (.int .i64 dd) := blk_cell (hB1.box) 6
    have y7 : w1.cell? ⟨w.heap.size, 7, none⟩ = some (.int .i64 wall) := blk_cell (hB1.box) 7
    have y8 : w1.cell? ⟨w.heap.size, 8, none⟩ = some (.int .i64 prio) := blk_cell (hB1.box) 8
    have y9 : w1.cell? ⟨w.heap.size, 9, none⟩ = some (.int .i64 array) := blk_cell (hB1.box) 9
    have y10 : w1.cell? ⟨w.heap.size, 10, none⟩ = some (.int .i64 retries) := blk_cell (hB1.box) 10
    have y11 : w1.cell? ⟨w.heap.size, 11, none⟩ = some (.bool held) := blk_cell (hB1.box) 11
    have y12 : w1.cell? ⟨w.heap.size, 12, none⟩ = some (.slice so n cp) := blk_cell (hB1.box) 12
    replace hb1 := Lib.hid hb1; replace hB1 := Lib.hid hB1
    go_wp2
    go_ret
    exact ⟨rfl, hB1.out.low⟩
  by_cases hs : mayS x.pl = true
  rotate_left
  · have hte : ofL (textS x.pl) = { data := #[] } := by rw [show textS x.pl = [] from if_neg hs]; rfl
    have he : errS x.pl = 80 := if_neg hs
    simp only [he, hte] at hk1 hk3
    obtain ⟨⟨user, part, nodes, ⟨da, db, dc, dd⟩, wall, prio, array, retries, held, after⟩, so, n, cp⟩ := x
    have d1 : decide ((1000 : Int) < n) = false := decide_eq_false (by have : ¬ 1000 < n := q1; omega)
    have d1' : decide (1000 < n) = false := decide_eq_false q1
    replace hc1 := Lib.hid hc1; replace hB0 := Lib.hid hB0; replace hx := Lib.hid hx; replace hm := Lib.hid hm; replace ht := Lib.hid ht; replace hk1 := Lib.hid hk1; replace hk3 := Lib.hid hk3; replace q1 := Lib.hid q1; replace hs := Lib.hid hs; replace hte := Lib.hid hte; replace he := Lib.hid he
    go_enter Tryd.func6, Tryd.ntmps6
    go_wp2_with fail
    refine hc1.out.mono ?_
    rintro e w1 ⟨rfl, hb1⟩
    have hB1 := hB0.out.below hb1
    have y0 : w1.cell? ⟨w.heap.size, 0, none⟩ = some (.string user) := blk_cell (hB1.box) 0
    have y1 : w1.cell? ⟨w.heap.size, 1, none⟩ = some (.string part) := blk_cell (hB1.box) 1
    have y2 : w1.cell? ⟨w.heap.size, 2, none⟩ = some (.int .i64 nodes) := blk_cell (hB1.box) 2
    have y3 : w1.cell? ⟨w.heap.size, 3, none⟩ = some (.int .i64 da) := blk_cell (hB1.box) 3
    have y4 : w1.cell? ⟨w.heap.size, 4, none⟩ = some (.int .i64 db) := blk_cell (hB1.box) 4
    have y5 : w1.cell? ⟨w.heap.size, 5, none⟩ = some (.int .i64 dc) := blk_cell (hB1.box) 5
    have y6 : w1.cell? ⟨w.heap.size, 6, none⟩ = some (.int .i64 dd) := blk_cell (hB1.box) 6
    have y7 : w1.cell? ⟨w.heap.size, 7, none⟩ = some (.int .i64 wall) := blk_cell (hB1.box) 7
    have y8 : w1.cell? ⟨w.heap.size, 8, none⟩ = some (.int .i64 prio) := blk_cell (hB1.box) 8
    have y9 : w1.cell? ⟨w.heap.size, 9, none⟩ = some (.int .i64 array) := blk_cell (hB1.box) 9
    have y10 : w1.cell? ⟨w.heap.size, 10, none⟩ = some (.int .i64 retries) := blk_cell (hB1.box) 10
    have y11 : w1.cell? ⟨w.heap.size, 11, none⟩ = some (.bool held) := blk_cell (hB1.box) 11
    have y12 : w1.cell? ⟨w.heap.size, 12, none⟩ = some (.slice so n cp) := blk_cell (hB1.box) 12
    replace hb1 := Lib.hid hb1; replace hB1 := Lib.hid hB1
    go_wp2_with fail
    refine (hk3.out _ hB1.out).mono ?_
    rintro e w2 ⟨rfl, hb2⟩
    have hB2 := hB1.out.below hb2
    clear y0 y1 y2 y3 y4 y5 y6 y7 y8 y9 y10 y11 y12
    have y0 : w2.cell? ⟨w.heap.size, 0, none⟩ = some (.string user) := blk_cell (hB2.box) 0
    have y1 : w2.cell? ⟨w.heap.size, 1, none⟩ = some (.string part) := blk_cell (hB2.box) 1
    have y2 : w2.cell? ⟨w.heap.size, 2, none⟩ = some (.int .i64 nodes) := blk_cell (hB2.box) 2
    have y3 : w2.cell? ⟨w.heap.size, 3, none⟩ = some (.int .i64 da) := blk_cell (hB2.box) 3
    have y4 : w2.cell? ⟨w.heap.size, 4, none⟩ = some (.int .i64 db) := blk_cell (hB2.box) 4
    have y5 : w2.cell? ⟨w.heap.size, 5, none⟩ = some (.int .i64 dc) := blk_cell (hB2.box) 5
    have y6 : w2.cell? ⟨w.heap.size, 6, none⟩ = some (.int .i64 dd) := blk_cell (hB2.box) 6
    have y7 : w2.cell? ⟨w.heap.size, 7, none⟩ = some (.int .i64 wall) := blk_cell (hB2.box) 7
    have y8 : w2.cell? ⟨w.heap.size, 8, none⟩ = some (.int .i64 prio) := blk_cell (hB2.box) 8
    have y9 : w2.cell? ⟨w.heap.size, 9, none⟩ = some (.int .i64 array) := blk_cell (hB2.box) 9
    have y10 : w2.cell? ⟨w.heap.size, 10, none⟩ = some (.int .i64 retries) := blk_cell (hB2.box) 10
    have y11 : w2.cell? ⟨w.heap.size, 11, none⟩ = some (.bool held) := blk_cell (hB2.box) 11
    have y12 : w2.cell? ⟨w.heap.size, 12, none⟩ = some (.slice so n cp) := blk_cell (hB2.box) 12
    replace hb2 := Lib.hid hb2; replace hB2 := Lib.hid hB2
    go_wp2_with fail
    refine (hk1.out _ hB2.out).mono ?_
    rintro e w3 ⟨rfl, hb3⟩
    have hB3 := hB2.out.below hb3
    clear y0 y1 y2 y3 y4 y5 y6 y7 y8 y9 y10 y11 y12
    replace hb3 := Lib.hid hb3; replace hB3 := Lib.hid hB3
    go_wp2
    go_ret
    exact ⟨rfl, hB3.out.low⟩
  have he : errS x.pl = 0 := if_pos hs
  have hpt := parse_text hs
  have hwd : words (ofL (textS x.pl)) = (pairsS x.pl).map fun p => ofL (kv p.1 p.2) := by rw [textS_may hs]; exact words_join hs (fun p h => h) (pairs_ne _)
  have htl := textS_len hs
  obtain ⟨T, hT⟩ : ∃ T, T = ofL (textS x.pl) := ⟨_, rfl⟩
  have hTl : T.size ≤ 1810 := by rw [hT, ofL_size]; exact htl
  rw [← hT] at hpt hwd
  simp only [he, ← hT] at hk1 hk3
  have hkp : ∀ W, BoxC w x W → Calls Tryd.prog 22 #[.string T] W (ParsePost T W) := fun W h => parse_any T W (hm.low h.low)
  have hkc : ∀ W, Calls Tryd.prog 29 #[.string T, .int .u8 32] W (StrsPost (words T) W) := fun W => rcut_any T 32 W (by omega)
  obtain ⟨P, hP⟩ : ∃ P, P = pairsS x.pl := ⟨_, rfl⟩
  have hrl := fun k i => rotT_len hs k i
  have hrp := fun k => parse_perm hs (rotP_perm (pairsS x.pl) k)
  have hPl := pairs_len x.pl
  have hPn := List.length_pos_iff.2 (pairs_ne x.pl)
  have hpl180 := fun p (hp : p ∈ pairsS x.pl) => pair_len hs hp
  rw [← hP] at hwd hPl hPn
  simp only [← hP] at hrl hrp hpl180
  obtain ⟨L, hL⟩ : ∃ L, L = P.length := ⟨_, rfl⟩
  rw [← hL] at hPl hPn
  obtain ⟨tn, htn⟩ : ∃ tn, tn = if turn < 0 then -(turn + 1) else turn := ⟨_, rfl⟩
  have htn0 : 0 ≤ tn := by rw [htn]; split <;> omega
  have htn1 : tn ≤ 9223372036854775807 := by rw [htn]; split <;> omega
  obtain ⟨pl, so, n, cp⟩ := x
  have hpl9 : Hid (parseOf T = (pl, 0, 0)) := hpt
  obtain ⟨S, hS⟩ : ∃ S, S = pl := ⟨_, rfl⟩
  obtain ⟨user, part, nodes, ⟨da, db, dc, dd⟩, wall, prio, array, retries, held, after⟩ := pl
  rw [← hS] at hpl9
  have d1 : decide ((1000 : Int) < n) = false := decide_eq_false (by have : ¬ 1000 < n := q1; omega)
  have d1' : decide (1000 < n) = false := decide_eq_false q1
  have hrp' : Hid (∀ k, parseOf (ofL (Lib.join (kvs (rotP P k)) [32])) = (S, 0, 0)) := by rw [hS]; exact hrp
  clear hpt hrp
  have htt : Hid (-9223372036854775808 ≤ turn ∧ turn ≤ 9223372036854775807) := ⟨ht0, ht1⟩
  replace hc1 := Lib.hid hc1; replace hB0 := Lib.hid hB0; replace hx := Lib.hid hx; replace hm := Lib.hid hm; replace ht := Lib.hid ht; replace hk1 := Lib.hid hk1; replace hk3 := Lib.hid hk3; replace q1 := Lib.hid q1; replace hs := Lib.hid hs; replace he := Lib.hid he; replace hwd := Lib.hid hwd; replace htl := Lib.hid htl; replace hT := Lib.hid hT; replace hkp := Lib.hid hkp; replace hkc := Lib.hid hkc; replace hP := Lib.hid hP; replace hrl := Lib.hid hrl; replace hpl180 := Lib.hid hpl180; replace hL := Lib.hid hL; replace htn := Lib.hid htn; replace hS := Lib.hid hS
  go_enter Tryd.func6, Tryd.ntmps6
  go_wp2_with fail
  refine hc1.out.mono ?_
  rintro e w1 ⟨rfl, hb1⟩
  have hB1 := hB0.out.below hb1
  have y0 : w1.cell? ⟨w.heap.size, 0, none⟩ = some (.string user) := blk_cell (hB1.box) 0
  have y1 : w1.cell? ⟨w.heap.size, 1, none⟩ = some (.string part) := blk_cell (hB1.box) 1
  have y2 : w1.cell? ⟨w.heap.size, 2, none⟩ = some (.int .i64 nodes) := blk_cell (hB1.box) 2
  have y3 : w1.cell? ⟨w.heap.size, 3, none⟩ = some (.int .i64 da) := blk_cell (hB1.box) 3
  have y4 : w1.cell? ⟨w.heap.size, 4, none⟩ = some (.int .i64 db) := blk_cell (hB1.box) 4
  have y5 : w1.cell? ⟨w.heap.size, 5, none⟩ = some (.int .i64 dc) := blk_cell (hB1.box) 5
  have y6 : w1.cell? ⟨w.heap.size, 6, none⟩ = some (.int .i64 dd) := blk_cell (hB1.box) 6
  have y7 : w1.cell? ⟨w.heap.size, 7, none⟩ = some (.int .i64 wall) := blk_cell (hB1.box) 7
  have y8 : w1.cell? ⟨w.heap.size, 8, none⟩ = some (.int .i64 prio) := blk_cell (hB1.box) 8
  have y9 : w1.cell? ⟨w.heap.size, 9, none⟩ = some (.int .i64 array) := blk_cell (hB1.box) 9
  have y10 : w1.cell? ⟨w.heap.size, 10, none⟩ = some (.int .i64 retries) := blk_cell (hB1.box) 10
  have y11 : w1.cell? ⟨w.heap.size, 11, none⟩ = some (.bool held) := blk_cell (hB1.box) 11
  have y12 : w1.cell? ⟨w.heap.size, 12, none⟩ = some (.slice so n cp) := blk_cell (hB1.box) 12
  replace hb1 := Lib.hid hb1; replace hB1 := Lib.hid hB1
  go_wp2_with fail
  refine (hk3.out _ hB1.out).mono ?_
  rintro e w2 ⟨rfl, hb2⟩
  have hB2 := hB1.out.below hb2
  clear y0 y1 y2 y3 y4 y5 y6 y7 y8 y9 y10 y11 y12
  have y0 : w2.cell? ⟨w.heap.size, 0, none⟩ = some (.string user) := blk_cell (hB2.box) 0
  have y1 : w2.cell? ⟨w.heap.size, 1, none⟩ = some (.string part) := blk_cell (hB2.box) 1
  have y2 : w2.cell? ⟨w.heap.size, 2, none⟩ = some (.int .i64 nodes) := blk_cell (hB2.box) 2
  have y3 : w2.cell? ⟨w.heap.size, 3, none⟩ = some (.int .i64 da) := blk_cell (hB2.box) 3
  have y4 : w2.cell? ⟨w.heap.size, 4, none⟩ = some (.int .i64 db) := blk_cell (hB2.box) 4
  have y5 : w2.cell? ⟨w.heap.size, 5, none⟩ = some (.int .i64 dc) := blk_cell (hB2.box) 5
  have y6 : w2.cell? ⟨w.heap.size, 6, none⟩ = some (.int .i64 dd) := blk_cell (hB2.box) 6
  have y7 : w2.cell? ⟨w.heap.size, 7, none⟩ = some (.int .i64 wall) := blk_cell (hB2.box) 7
  have y8 : w2.cell? ⟨w.heap.size, 8, none⟩ = some (.int .i64 prio) := blk_cell (hB2.box) 8
  have y9 : w2.cell? ⟨w.heap.size, 9, none⟩ = some (.int .i64 array) := blk_cell (hB2.box) 9
  have y10 : w2.cell? ⟨w.heap.size, 10, none⟩ = some (.int .i64 retries) := blk_cell (hB2.box) 10
  have y11 : w2.cell? ⟨w.heap.size, 11, none⟩ = some (.bool held) := blk_cell (hB2.box) 11
  have y12 : w2.cell? ⟨w.heap.size, 12, none⟩ = some (.slice so n cp) := blk_cell (hB2.box) 12
  replace hb2 := Lib.hid hb2; replace hB2 := Lib.hid hB2
  go_wp2_with fail
  refine (hk1.out _ hB2.out).mono ?_
  rintro e w3 ⟨rfl, hb3⟩
  have hB3 := hB2.out.below hb3
  have hc22 := hkp.out _ hB3
  unfold ParsePost at hc22
  rw [hpl9.out] at hc22
  clear y0 y1 y2 y3 y4 y5 y6 y7 y8 y9 y10 y11 y12
  replace hb3 := Lib.hid hb3; replace hB3 := Lib.hid hB3; replace hc22 := Lib.hid hc22
  go_wp2_with fail
  refine hc22.out.mono ?_
  rintro e w4 ⟨x4, rfl, hx4, hx4p, hb4, hfr4⟩
  clear hfr4
  have hB4 := hB3.out.below hb4
  obtain ⟨⟨user', part', nodes', ⟨da', db', dc', dd'⟩, wall', prio', array', retries', held', after'⟩, so', n', cp'⟩ := x4
  obtain ⟨W5, hW5⟩ : ∃ W5, W5 = w4.alloc (.cells (⟨⟨user', part', nodes', ⟨da', db', dc', dd'⟩, wall', prio', array', retries', held', after'⟩, so', n', cp'⟩ : Spv).cells 28 (0, 0)) := ⟨_, rfl⟩
  have hb5 : Below w4.heap.size w4 W5 := by rw [hW5]; exact (Below.refl _ _).alloc (Nat.le_refl _) _
  have hB5 := hB4.below hb5
  have hx5 : W5.heap[w4.heap.size]? = some (.cells (⟨⟨user', part', nodes', ⟨da', db', dc', dd'⟩, wall', prio', array', retries', held', after'⟩, so', n', cp'⟩ : Spv).cells 28 (0, 0)) := by rw [hW5]; exact blk_new _ _
  have hct := same_any8 ⟨⟨user', part', nodes', ⟨da', db', dc', dd'⟩, wall', prio', array', retries', held', after'⟩, so', n', cp'⟩ ⟨⟨user, part, nodes, ⟨da, db, dc, dd⟩, wall, prio, array, retries, held, after⟩, so, n, cp⟩ W5 (hx4.low hb5) (hB5.ok hx.out)
  unfold SamePost at hct
  rw [show (⟨⟨user', part', nodes', ⟨da', db', dc', dd'⟩, wall', prio', array', retries', held', after'⟩, so', n', cp'⟩ : Spv).pl = S from hx4p, show (⟨⟨user, part, nodes, ⟨da, db, dc, dd⟩, wall, prio, array, retries, held, after⟩, so, n, cp⟩ : Spv).pl = S from hS.out.symm, decide_eq_true (rfl : S = S)] at hct
  have y0 : W5.cell? ⟨w.heap.size, 0, none⟩ = some (.string user) := blk_cell (hB5.box) 0
  have y1 : W5.cell? ⟨w.heap.size, 1, none⟩ = some (.string part) := blk_cell (hB5.box) 1
  have y2 : W5.cell? ⟨w.heap.size, 2, none⟩ = some (.int .i64 nodes) := blk_cell (hB5.box) 2
  have y3 : W5.cell? ⟨w.heap.size, 3, none⟩ = some (.int .i64 da) := blk_cell (hB5.box) 3
  have y4 : W5.cell? ⟨w.heap.size, 4, none⟩ = some (.int .i64 db) := blk_cell (hB5.box) 4
  have y5 : W5.cell? ⟨w.heap.size, 5, none⟩ = some (.int .i64 dc) := blk_cell (hB5.box) 5
  have y6 : W5.cell? ⟨w.heap.size, 6, none⟩ = some (.int .i64 dd) := blk_cell (hB5.box) 6
  have y7 : W5.cell? ⟨w.heap.size, 7, none⟩ = some (.int .i64 wall) := blk_cell (hB5.box) 7
  have y8 : W5.cell? ⟨w.heap.size, 8, none⟩ = some (.int .i64 prio) := blk_cell (hB5.box) 8
  have y9 : W5.cell? ⟨w.heap.size, 9, none⟩ = some (.int .i64 array) := blk_cell (hB5.box) 9
  have y10 : W5.cell? ⟨w.heap.size, 10, none⟩ = some (.int .i64 retries) := blk_cell (hB5.box) 10
  have y11 : W5.cell? ⟨w.heap.size, 11, none⟩ = some (.bool held) := blk_cell (hB5.box) 11
  have y12 : W5.cell? ⟨w.heap.size, 12, none⟩ = some (.slice so n cp) := blk_cell (hB5.box) 12
  have z0 : W5.cell? ⟨w4.heap.size, 0, none⟩ = some (.string user') := blk_cell (hx5) 0
  have z1 : W5.cell? ⟨w4.heap.size, 1, none⟩ = some (.string part') := blk_cell (hx5) 1
  have z2 : W5.cell? ⟨w4.heap.size, 2, none⟩ = some (.int .i64 nodes') := blk_cell (hx5) 2
  have z3 : W5.cell? ⟨w4.heap.size, 3, none⟩ = some (.int .i64 da') := blk_cell (hx5) 3
  have z4 : W5.cell? ⟨w4.heap.size, 4, none⟩ = some (.int .i64 db') := blk_cell (hx5) 4
  have z5 : W5.cell? ⟨w4.heap.size, 5, none⟩ = some (.int .i64 dc') := blk_cell (hx5) 5
  have z6 : W5.cell? ⟨w4.heap.size, 6, none⟩ = some (.int .i64 dd') := blk_cell (hx5) 6
  have z7 : W5.cell? ⟨w4.heap.size, 7, none⟩ = some (.int .i64 wall') := blk_cell (hx5) 7
  have z8 : W5.cell? ⟨w4.heap.size, 8, none⟩ = some (.int .i64 prio') := blk_cell (hx5) 8
  have z9 : W5.cell? ⟨w4.heap.size, 9, none⟩ = some (.int .i64 array') := blk_cell (hx5) 9
  have z10 : W5.cell? ⟨w4.heap.size, 10, none⟩ = some (.int .i64 retries') := blk_cell (hx5) 10
  have z11 : W5.cell? ⟨w4.heap.size, 11, none⟩ = some (.bool held') := blk_cell (hx5) 11
  have z12 : W5.cell? ⟨w4.heap.size, 12, none⟩ = some (.slice so' n' cp') := blk_cell (hx5) 12
  rw [hW5] at hct y0 y1 y2 y3 y4 y5 y6 y7 y8 y9 y10 y11 y12 z0 z1 z2 z3 z4 z5 z6 z7 z8 z9 z10 z11 z12
  have hW5' := Lib.hid hW5
  clear hW5
  replace hx4 := Lib.hid hx4; replace hx4p := Lib.hid hx4p; replace hb4 := Lib.hid hb4; replace hB4 := Lib.hid hB4; replace hb5 := Lib.hid hb5; replace hB5 := Lib.hid hB5; replace hx5 := Lib.hid hx5; replace hct := Lib.hid hct
  go_wp2_with fail
  refine hct.out.mono ?_
  rw [← hW5'.out]
  rintro e w6 ⟨rfl, hb6⟩
  have hB6 := hB5.out.below hb6
  clear y0 y1 y2 y3 y4 y5 y6 y7 y8 y9 y10 y11 y12
  clear z0 z1 z2 z3 z4 z5 z6 z7 z8 z9 z10 z11 z12
  replace hb6 := Lib.hid hb6; replace hB6 := Lib.hid hB6
  go_wp2_with fail
  refine (hkc.out _).mono ?_
  rintro e w7 ⟨so2, n2, c2, rfl, hnc2, hrow, hz9, hb7⟩
  have hB7 := hB6.out.below hb7
  have hnL : n2 = L := by rw [← hrow.len, hwd.out, List.length_map, hL.out]
  subst hnL
  rw [hwd.out] at hrow
  replace hb7 := Lib.hid hb7; replace hB7 := Lib.hid hB7; replace hrow := Lib.hid hrow; replace hz9 := Lib.hid hz9; replace hnc2 := Lib.hid hnc2
  go_upto_if 52 with fail
  go_cut [1] (fun tv wx => TurnC tn w7 tv wx)
  case first =>
    have htt' := htt.out
    obtain ⟨t0, t1⟩ := htt'
    by_cases q : turn < 0
    · have d : decide (turn < 0) = true := decide_eq_true q
      have e9 : -(turn + 1) = tn := by rw [htn.out, if_pos q]
      go_wp2
      go_meet
      case rel => exact ⟨by rw [← e9], rfl⟩
    · have d : decide (turn < 0) = false := decide_eq_false q
      have e9 : turn = tn := by rw [htn.out, if_neg q]
      replace e9 := Lib.hid e9
      go_wp2
      go_meet
      case rel => exact ⟨by rw [e9.out], rfl⟩
  case rest =>
  obtain ⟨rfl, rfl⟩ := hcut
  have hnp : (0 : Int) < n2 := by omega
  obtain ⟨K, hK⟩ : ∃ K : Nat, tn % (n2 : Int) = K := ⟨(tn % (n2 : Int)).toNat, by have := Int.emod_nonneg tn (b := (n2 : Int)) (by omega); omega⟩
  have hKl : K < n2 := by have := Int.emod_lt_of_pos tn (b := (n2 : Int)) (by omega); omega
  have hK' := Lib.hid hK
  clear hK
  go_wp2
  rw [hK'.out]
  go_loopw [12, 13] (fun tv iv wr => ∃ i : Nat, iv = .int .i64 i ∧ i ≤ n2 ∧ Hid (tv = .string (ofL (rotT P K i))) ∧ Hid (wr = w7)) (fun _ iv _ => n2 - (intOf iv).toNat)
  case atStart => exact ⟨0, rfl, Nat.zero_le _, rfl, rfl⟩
  case round =>
    obtain ⟨i, rfl, hi, htv, hw⟩ := hrel
    have hw2 := hw.out.symm
    subst hw2
    have htv' := htv.out
    subst htv'
    obtain ⟨V, hV⟩ : ∃ V, V = ofL (rotT P K i) := ⟨_, rfl⟩
    have hVl : V.size ≤ 1810 := by rw [hV, ofL_size]; exact hrl.out K i
    rw [← hV]
    by_cases hc : i < n2
    · have hc1 : (i : Int) < n2 := by omega
      have hi0 : (0 : Int) ≤ (i : Int) := by omega
      have hKP : K < P.length := by rw [← hL.out]; exact hKl
      have hiP : i < P.length := by rw [← hL.out]; exact hc
      obtain ⟨J, hJ⟩ : ∃ J, J = (i + K) % n2 := ⟨_, rfl⟩
      have hJl : J < n2 := by rw [hJ]; exact Nat.mod_lt _ (by omega)
      have hJ0 : (0 : Int) ≤ (J : Int) := by omega
      have hJ1 : (J : Int) < n2 := by omega
      have hJe : ((i : Int) + (K : Int)) % (n2 : Int) = (J : Int) := by rw [hJ]; norm_cast
      obtain ⟨p, hp⟩ : ∃ p, P[J]? = some p := ⟨_, List.getElem?_eq_getElem (by rw [← hL.out]; exact hJl)⟩
      have hst := rotT_step hKP hiP (p := p) (by rw [← hL.out, ← hJ]; exact hp)
      have hpm := List.mem_of_getElem? hp
      have hkl := hpl180.out p hpm
      obtain ⟨b', off', rfl, _, c0⟩ := hrow.out.cell J (ofL (kv p.1 p.2)) (by rw [List.getElem?_map, hp]; rfl)
      have hoz := (hz9.out _ _ rfl).1
      subst hoz
      simp only [Nat.zero_add] at c0
      obtain ⟨D, hD⟩ : ∃ D, D = ofL (kv p.1 p.2) := ⟨_, rfl⟩
      have hDl : D.size ≤ 180 := by rw [hD, ofL_size]; exact hkl
      rw [← hD] at c0
      by_cases hz : i = 0
      · subst hz
        have hT1 : V ++ D = ofL (rotT P K (0 + 1)) := by rw [hst, hV, hD, if_pos rfl, ← ofL_app, ← ofL_app]; rfl
        have u1 : ¬ 9223372036854775807 < V.size + D.size := by omega
        have hJe2 : (K : Int) % (n2 : Int) = (J : Int) := by rw [hJ]; norm_cast; rw [Nat.zero_add]
        clear hJe
        replace htv := Lib.hid htv; replace hV := Lib.hid hV; replace hp := Lib.hid hp; replace hst := Lib.hid hst; replace hpm := Lib.hid hpm; replace hkl := Lib.hid hkl; replace hD := Lib.hid hD; replace hT1 := Lib.hid hT1; replace hJ := Lib.hid hJ
        go_wp2
        go_roundw
        case rel => exact ⟨1, by go_num, by omega, by rw [hT1.out]; exact rfl, trivial⟩
        case measure => simp [intOf]; omega
      · have d : decide ((0 : Int) < i) = true := decide_eq_true (by omega)
        have d' : decide (0 < i) = true := decide_eq_true (by omega)
        have hT1 : V ++ ({ data := #[32] } : ByteArray) ++ D = ofL (rotT P K (i + 1)) := by rw [hst, hV, hD, if_neg hz, ← ofL_app, ← ofL_app]; rfl
        have u1 : ¬ 9223372036854775807 < V.size + 1 := by omega
        have u2 : ¬ 9223372036854775807 < V.size + 1 + D.size := by omega
        replace htv := Lib.hid htv; replace hV := Lib.hid hV; replace hp := Lib.hid hp; replace hst := Lib.hid hst; replace hpm := Lib.hid hpm; replace hkl := Lib.hid hkl; replace hD := Lib.hid hD; replace hT1 := Lib.hid hT1; replace hJ := Lib.hid hJ; replace hz := Lib.hid hz
        go_wp2
        go_roundw
        case rel => exact ⟨i + 1, by go_num, by omega, by rw [hT1.out]; exact rfl, trivial⟩
        case measure => simp [intOf]; omega
    · have hc1 : ¬ (i : Int) < n2 := by omega
      have hie : i = n2 := by omega
      have hVe : V = ofL (Lib.join (kvs (rotP P K)) [32]) := by rw [hV, hie, hL.out, rotT_all]
      have hpv : parseOf V = (S, 0, 0) := by rw [hVe]; exact hrp'.out K
      have hc23 := parse_any V w7 (hm.out.low hB7.out.low)
      unfold ParsePost at hc23
      rw [hpv] at hc23
      replace htv := Lib.hid htv; replace hV := Lib.hid hV; replace hVe := Lib.hid hVe; replace hpv := Lib.hid hpv; replace hc23 := Lib.hid hc23; replace hie := Lib.hid hie
      go_wp2_with fail
      refine hc23.out.mono ?_
      rintro e w8 ⟨x8, rfl, hx8, hx8p, hb8, hfr8⟩
      clear hfr8
      have hB8 := hB7.out.below hb8
      obtain ⟨⟨user2, part2, nodes2, ⟨da2, db2, dc2, dd2⟩, wall2, prio2, array2, retries2, held2, after2⟩, so3, n3, cp3⟩ := x8
      obtain ⟨W9, hW9⟩ : ∃ W9, W9 = w8.alloc (.cells (⟨⟨user2, part2, nodes2, ⟨da2, db2, dc2, dd2⟩, wall2, prio2, array2, retries2, held2, after2⟩, so3, n3, cp3⟩ : Spv).cells 28 (0, 0)) := ⟨_, rfl⟩
      have hb9 : Below w8.heap.size w8 W9 := by rw [hW9]; exact (Below.refl _ _).alloc (Nat.le_refl _) _
      have hB9 := hB8.below hb9
      have hct := same_any8 ⟨⟨user2, part2, nodes2, ⟨da2, db2, dc2, dd2⟩, wall2, prio2, array2, retries2, held2, after2⟩, so3, n3, cp3⟩ ⟨⟨user, part, nodes, ⟨da, db, dc, dd⟩, wall, prio, array, retries, held, after⟩, so, n, cp⟩ W9 (hx8.low hb9) (hB9.ok hx.out)
      unfold SamePost at hct
      rw [show (⟨⟨user2, part2, nodes2, ⟨da2, db2, dc2, dd2⟩, wall2, prio2, array2, retries2, held2, after2⟩, so3, n3, cp3⟩ : Spv).pl = S from hx8p, show (⟨⟨user, part, nodes, ⟨da, db, dc, dd⟩, wall, prio, array, retries, held, after⟩, so, n, cp⟩ : Spv).pl = S from hS.out.symm, decide_eq_true (rfl : S = S)] at hct
      have y0 : W9.cell? ⟨w.heap.size, 0, none⟩ = some (.string user) := blk_cell (hB9.box) 0
      have y1 : W9.cell? ⟨w.heap.size, 1, none⟩ = some (.string part) := blk_cell (hB9.box) 1
      have y2 : W9.cell? ⟨w.heap.size, 2, none⟩ = some (.int .i64 nodes) := blk_cell (hB9.box) 2
      have y3 : W9.cell? ⟨w.heap.size, 3, none⟩ = some (.int .i64 da) := blk_cell (hB9.box) 3
      have y4 : W9.cell? ⟨w.heap.size, 4, none⟩ = some (.int .i64 db) := blk_cell (hB9.box) 4
      have y5 : W9.cell? ⟨w.heap.size, 5, none⟩ = some (.int .i64 dc) := blk_cell (hB9.box) 5
      have y6 : W9.cell? ⟨w.heap.size, 6, none⟩ = some (.int .i64 dd) := blk_cell (hB9.box) 6
      have y7 : W9.cell? ⟨w.heap.size, 7, none⟩ = some (.int .i64 wall) := blk_cell (hB9.box) 7
      have y8 : W9.cell? ⟨w.heap.size, 8, none⟩ = some (.int .i64 prio) := blk_cell (hB9.box) 8
      have y9 : W9.cell? ⟨w.heap.size, 9, none⟩ = some (.int .i64 array) := blk_cell (hB9.box) 9
      have y10 : W9.cell? ⟨w.heap.size, 10, none⟩ = some (.int .i64 retries) := blk_cell (hB9.box) 10
      have y11 : W9.cell? ⟨w.heap.size, 11, none⟩ = some (.bool held) := blk_cell (hB9.box) 11
      have y12 : W9.cell? ⟨w.heap.size, 12, none⟩ = some (.slice so n cp) := blk_cell (hB9.box) 12
      rw [hW9] at hct y0 y1 y2 y3 y4 y5 y6 y7 y8 y9 y10 y11 y12
      have hW9' := Lib.hid hW9
      clear hW9
      replace hx8 := Lib.hid hx8; replace hx8p := Lib.hid hx8p; replace hb8 := Lib.hid hb8; replace hB8 := Lib.hid hB8; replace hb9 := Lib.hid hb9; replace hB9 := Lib.hid hB9; replace hct := Lib.hid hct
      go_wp2_with fail
      refine hct.out.mono ?_
      rw [← hW9'.out]
      rintro e w10 ⟨rfl, hb10⟩
      have hB10 := hB9.out.below hb10
      clear y0 y1 y2 y3 y4 y5 y6 y7 y8 y9 y10 y11 y12
      replace hb10 := Lib.hid hb10; replace hB10 := Lib.hid hB10
      go_wp2
      go_ret
      exact ⟨rfl, hB10.out.low⟩
end Go.Proofs.YteoihdkaoipocaaDoor

namespace Go.Proofs.YteoihdkaoipocaaDoor
open Go.ChangeShapes Go.WideShapes Go.ChangeAt Go.RowKit Go.ChangeMaps

set_option maxRecDepth 100000 in
theorem specBack_lifted (os : Os) (started : os.Started) (H : Type) (enc : TypeId × Value → H) :
    ReturnsInHanded {} Tryd.checked os 6 .any (fun w args => (Rows.specBackSpec.pre enc Tryd.prog Tryd.f6 Rows.specBackRow.domain false w args ∧ laidMetH Tryd.prog Rows.specBackRow.laid w) ∧ sizedMet enc Tryd.prog Tryd.f6 (OpenSpec.ofChange Rows.specBackSpec) false w args)
      (Rows.specBackSpec.post enc Tryd.prog Tryd.f6 false true false false) := by
  refine returns_laid (C := Tryd.checked) (X := fun w _ => laidMetH Tryd.prog Rows.specBackRow.laid w) (fun _ _ _ hh h => h.of_heap hh) own started (by kernel_rfl) Tryd.func6
    (ChangeSpec.witness_shaped (enc := enc) (C := Tryd.checked) (os := os) (X := fun w _ => laidMetH Tryd.prog Rows.specBackRow.laid w) false (World.laidAll Tryd.prog os Rows.specBackRow.laid) #[.agg #[.string ByteArray.empty, .string ByteArray.empty, .int .i64 0, .int .i64 0, .int .i64 0, .int .i64 0, .int .i64 0, .int .i64 0, .int .i64 0, .int .i64 0, .int .i64 0, .bool false, .slice none 0 0], .int .i64 0] 8 (World.laidAll_os _ _ _)
      (World.shaped_of_ZipB (by kernel_rfl) (by kernel_rfl)) (by kernel_rfl) (by kernel_rfl) (by kernel_rfl)
      (by rw [MakeChecks.laidMetH_plain _ _ _ (by kernel_rfl)]; exact laidMet_laidAll _ (by kernel_rfl) (by kernel_rfl))) ?_
  intro W base args ds gs before hval0 hW hc hL hsh
  have hval : ∀ (j : Nat) t v, Tryd.f6.params[j]? = some t → args[j]? = some v → Value.okWide Tryd.prog W .any base t v := hval0
  have hW' := hW
  obtain ⟨p, q, hA0, hV, rfl, _, _⟩ := hW
  have hA : DataW.TrodAll enc Tryd.prog W 0 (fun _ => true) true Tryd.f6.params.toList args.toList ds p := hA0
  rw [Tryd.params6] at hA hval
  obtain ⟨v0, v1, d0, d1, p0, p1, rfl, rfl, rfl, h0, h1⟩ := trodAll_two hA
  obtain ⟨rfl, rfl⟩ := trodVars_none hV
  obtain ⟨x0, rfl, hx0⟩ := open_spec (hval 0 28 v0 rfl rfl) h0
  obtain ⟨x1, rfl, rfl, rfl, hx1⟩ := open_int Tryd.underlying3 (hval 1 3 v1 rfl rfl) h1
  clear hA0 hval0
  refine (sback_any x0 x1 W hx0 (mx_shaped hsh) (tb_of_laid (fun w => MakeChecks.laidMetH_plain _ _ w (by kernel_rfl)) hL) (wf_bd hx1).1 (wf_bd hx1).2).mono fun e W' ⟨he, hw⟩ => ?_
  subst he
  refine ⟨_, rfl, post_of_below hW' rfl (fun _ _ _ => ?_) rfl rfl hw ?_⟩
  · have hrt : Tryd.f6.resultTypes = #[4] := by kernel_rfl
    rw [hrt]
    exact trodAll_mk1 ⟨1, by simp [DataW.trod, Value.cells, Tryd.underlying4]⟩
  · rw [Tryd.params6]
    intro t ht
    have hm : t ∈ [28, 3] := by simpa using ht
    have hall : ([28, 3].all fun u => Tryd.prog.readableRec u && decide (u < Tryd.prog.types.size)) = true := by kernel_rfl
    have := List.all_eq_true.1 hall t hm
    rw [Bool.and_eq_true] at this
    exact ⟨this.1, of_decide_eq_true this.2⟩
theorem specBack_row : Rows.SpecBackSaid :=
  OpenClaim.holds_of_wide 6 Tryd.f6 rfl rfl rfl rfl rfl rfl rfl ⟨rfl, rfl, rfl, rfl, rfl⟩ rfl rfl rfl rfl rfl (by kernel_rfl) Tryd.func6 (by kernel_rfl)
    (of_decide_eq_true (by kernel_rfl)) (by unfold Func.isWrapper; first | (rw [if_pos (by decide +kernel)]; kernel_rfl) | (rw [if_neg (by decide +kernel)]; exact ⟨rfl, rfl⟩))
    (fun os started H enc _ => specBack_lifted os started H enc)
theorem specBack_holds : Rows.SpecBackCardSaid :=
  Claim7.holds_tied_plain_at .later [] [.data, .data, .data, .data, .pinned] true (true, "d7ca3db8da485ca0b11e68421f68137e81c97920c528271bb1d28dc3225d4cd7") false specBack_row (fun _ h => by cases h) (by kernel_rfl) (fun _ h => by cases h) specBack_row_tie rfl ⟨rfl, rfl⟩ (by kernel_rfl) rfl
    (fun f fn hf hfn => by
      obtain rfl : f = 6 := Option.some.inj ((show Tryd.prog.funcNamed "corvee/corveelaw08.SpecBack" = some 6 by kernel_rfl).symm.trans hf) |>.symm
      obtain rfl : fn = Tryd.f6 := (Option.some.inj (Tryd.func6.symm.trans hfn)).symm
      exact ⟨by kernel_rfl, fun j t ht => by
        rw [Tryd.params6] at ht
        have hm : t ∈ [28, 3] := by simpa using Array.mem_of_getElem? ht
        have hall : ([28, 3].all fun u => !Tryd.prog.wantsStandIn u) = true := by kernel_rfl
        exact (show Tryd.prog.wantsStandIn t = false by simpa using List.all_eq_true.1 hall t hm)⟩)
    (by kernel_rfl)
end Go.Proofs.YteoihdkaoipocaaDoor
