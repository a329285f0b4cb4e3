/- Whether any spec fits any fleet is the answer of the document: for every input the law returns true, and each argument reads behind the call as it read before. The listed variables are laid and tied. No further condition. -/
import Derived.Test.YteoihdkaoipocaaGreatDoorQa
import Derived.Test.YteoihdkaoipocaaGreatDoorRows
import Derived.Test.YteoihdkaoipocaaGreatDoorTie
import Derived.Test.YteoihdkaoipocaaGreatDoorCards
import Derived.ProofKit
import Derived.OpenShut
import Derived.LaidMore
import Derived.Lay
import Derived.SevenTiedAt
import Derived.Stop.Joined
import Derived.Shelf.Vars
import Derived.Stop.LaidErr
import Derived.Lib.LaidTab
import Derived.Test.YteoihdkaoipocaaGreatDoorQd
import Derived.Deep.Slices
import Derived.Lib.SmallJoins
import Derived.Test.YteoihdkaoipocaaGreatDoorQb
import Derived.Test.YteoihdkaoipocaaGreatDoorQc
import Derived.Deep.RegionHeld3
import Derived.Deep.DeepCutAuto
/- What every row of this seat uses: the world's shape beside the laid variables; the variable MaxLen holds a number. -/
namespace Go.Proofs.YteoihdkaoipocaaGreatDoor
open Go.ChangeShapes Go.WideShapes Go.ChangeAt Go.RowKit

theorem own : ownKnob Tryz.prog.godebug = none := by kernel_rfl
theorem mx_shaped {W : World} (h : W.ShapedOpen Tryz.prog) : Mx W :=
  cell_of_shapedOpen_int (g := 0) (t := 3) (zero := #[.int .i64 0]) h (of_decide_eq_true (by kernel_rfl)) (by kernel_rfl) rfl (by kernel_rfl) (by kernel_rfl) Tryz.underlying3
variable {H : Type} {enc : TypeId × Value → H}
theorem returns_laid {a : Assume} {C : Checked} {os : Os} {f : FuncId} {fn : Func} {s : ChangeSpec} {conds : List PathCond} {apart fresh handsOn again : Bool} {X : World → Array Value → Prop}
    (hX : ∀ (w w' : World) (args : Array Value), w.heap = w'.heap → X w args → X w' args)
    (own : ownKnob C.prog.godebug = none) (started : os.Started) (noInit : C.prog.inits.idxOf? f = none) (hfn : C.prog.funcs[f]? = some fn)
    (witness : ∃ (w : World) (tape : Tape) (i : Input), w.os = os ∧ (w.forCall tape i).Shaped C.prog ∧ i.vars = [] ∧ Input.okWide C.prog (w.forCall tape i) .any w.heap.size f i ∧
      ((s.pre enc C.prog fn conds apart (w.forCall tape i).memory i.args ∧ X (w.forCall tape i).memory i.args) ∧ sizedMet enc C.prog fn (OpenSpec.ofChange s) apart (w.forCall tape i).memory i.args) ∧ a.holds C.prog (lone (Frame.enter C.prog f i.args .normal) [] (w.forCall tape i)))
    (contract : ∀ (W : World) (base : Nat) (args : Array Value) (ds gs : List (DataW H)) (before : List MemPlace),
      (∀ (j : Nat) t v, fn.params[j]? = some t → args[j]? = some v → Value.okWide C.prog W .any base t v) →
      DataW.Whole enc C.prog fn.params.toList s.vars apart W args.toList ds gs before →
      (DataW.weightsEach C.prog (fn.params.toList ++ s.plain.varTypes C.prog) (ds ++ gs)).all (· ≤ reachBytes) = true → X W args → W.ShapedOpen C.prog →
      Calls C.prog f args W fun e W' => ∃ v, e = .returned v ∧ s.post enc C.prog fn apart fresh handsOn again W args v W') :
    ReturnsInHanded a C os f .any (fun w args => (s.pre enc C.prog fn conds apart w args ∧ X w args) ∧ sizedMet enc C.prog fn (OpenSpec.ofChange s) apart w args) (s.post enc C.prog fn apart fresh handsOn again) := by
  refine returnsInHanded_of_calls own started noInit witness ?_
  intro w tape i _ hsh _ hok hpre hholds
  obtain ⟨_, _, _, fn', hfn', _, _, _, _, hval⟩ := hok
  have e : fn' = fn := Option.some.inj (hfn'.symm.trans hfn)
  subst e
  obtain ⟨⟨⟨ds, gs, before, hw, hc⟩, hx⟩, hz⟩ := hpre
  have hw' := DataW.Whole.of_heap (w' := w.forCall tape i) (by rfl) hw
  refine (contract (w.forCall tape i) w.heap.size i.args ds gs before hval hw' (hz.weights hw) (hX _ _ _ (by rfl) hx) hsh).mono fun e W' ⟨v, he, hp⟩ => ?_
  subst he
  exact ChangeSpec.post_blind hp
theorem laidOut : laidOutB Tryz.prog = true := by kernel_rfl
theorem trodAll_below {W W' : World} (hb : Below W.heap.size W W') : ∀ (ts : List TypeId) (vs : List Value) (ds : List (DataW H)) (ps : List MemPlace),
    DataW.TrodAll enc Tryz.prog W 0 (fun _ => true) true ts vs ds ps → (∀ x ∈ ps, x.block < W.heap.size) → (∀ t ∈ ts, Tryz.prog.readableRec t = true ∧ t < Tryz.prog.types.size) →
    DataW.TrodAll enc Tryz.prog W' 0 (fun b => decide (b < W.heap.size)) true ts vs ds ps
  | [], [], [], _, h, _, _ => h
  | [], _ :: _, _, _, h, _, _ => h.elim
  | [], [], _ :: _, _, h, _, _ => h.elim
  | _ :: _, [], _, _, h, _, _ => h.elim
  | _ :: _, _ :: _, [], _, h, _, _ => h.elim
  | t :: ts, v :: vs, d :: ds, ps, h, hlt, hr => by
    obtain ⟨p, q, h1, h2, rfl⟩ := h
    obtain ⟨r1, r2⟩ := hr t (by simp)
    exact ⟨p, q, Below.trod laidOut r1 r2 h1 hb (fun x hx => hlt x (by simp [hx])), trodAll_below hb ts vs ds q h2 (fun x hx => hlt x (by simp [hx])) (fun u hu => hr u (by simp [hu])), rfl⟩

theorem post_of_below {f : Func} {s : ChangeSpec} {apart fresh handsOn : Bool} {W W' : World} {args : Array Value} {v : Value} {ds gs : List (DataW H)} {before : List MemPlace}
    (hW : DataW.Whole enc Tryz.prog f.params.toList s.vars apart W args.toList ds gs before) (hs : s.vars = []) 
    (hres : ∀ (b : Nat) (sp : Nat → Bool) (hd : Bool), DataW.TrodAll enc Tryz.prog W' b sp hd f.resultTypes.toList (v.resultList f.resultTypes.size) (s.fn H (ds ++ gs)).results [])
    (hargs : (s.fn H (ds ++ gs)).args = ds) (hv : (s.fn H (ds ++ gs)).vars = []) (hb : Below W.heap.size W W')
    (hr : ∀ t ∈ f.params.toList, Tryz.prog.readableRec t = true ∧ t < Tryz.prog.types.size) :
    s.post enc Tryz.prog f apart fresh handsOn false W args v W' := by
  have hlt := hW.lt
  have hW' := hW
  obtain ⟨p, q, hA, hV, rfl, hfz, hnd⟩ := hW
  rw [hs] at hV
  obtain ⟨rfl, rfl⟩ := trodVars_none hV
  refine ⟨ds, [], p ++ [], [], p, [], hW', hres _ _ _, ?_, ?_, hb.frame _, fun h => by simp at h⟩
  · rw [hargs]
    exact trodAll_below hb _ _ _ _ hA (fun x hx => by simpa using hlt x (by simp [hx])) hr
  · rw [hv, hs]
    rfl
end Go.Proofs.YteoihdkaoipocaaGreatDoor

/- From a row's condition to the library's table of powers of ten. -/
namespace Go.Proofs.YteoihdkaoipocaaGreatDoor
open Go.RowKit

theorem pow_eq : (Rows.laid_internal_strconv_uint64pow10 : DataW Unit) = Lib.tabData .u64 Lib.pow10Tab := by kernel_rfl
theorem tb_of_laid {W : World} {a b : String × DataW Unit} {r : List (String × DataW Unit)} (hp : ∀ w, laidMetH Tryz.prog (a :: b :: ("internal/strconv.uint64pow10", Rows.laid_internal_strconv_uint64pow10) :: r) w = laidMet Tryz.prog (a :: b :: ("internal/strconv.uint64pow10", Rows.laid_internal_strconv_uint64pow10) :: r) w)
    (h : laidMetH Tryz.prog (a :: b :: ("internal/strconv.uint64pow10", Rows.laid_internal_strconv_uint64pow10) :: r) W) : Tb W := by
  rw [hp] at h
  have h2 := h.tail.tail
  rw [pow_eq] at h2
  exact Lib.tabBelow_of_tabIs (Lib.tabIs_of_head (g := 1) (t := 185) (e := 129) (n := 20) (by kernel_rfl) (by kernel_rfl) (by kernel_rfl) (by kernel_rfl) (by kernel_rfl) (by kernel_rfl) h2)
end Go.Proofs.YteoihdkaoipocaaGreatDoor

/- What an argument that is a row of nodes reads as, opened. Plain theorems: no condition. -/
namespace Go.Proofs.YteoihdkaoipocaaGreatDoor
open Go.ChangeShapes Go.WideShapes Go.ChangeAt Go.RowKit

theorem cel3 : Tryz.prog.cellsOf 3 = 1 := by kernel_rfl
theorem cel9 : Tryz.prog.cellsOf 9 = 1 := by kernel_rfl
theorem cel25 : Tryz.prog.cellsOf 23 = 4 := by kernel_rfl
theorem list4o {α : Type} {l : List α} (h : l.length = 4) : ∃ a b c d, l = [a, b, c, d] := by
  match l, h with
  | [a, b, c, d], _ => exact ⟨a, b, c, d, rfl⟩
theorem choose_belowo {α : Type} {n : Nat} {p : Nat → α → Prop} (z : α) (h : ∀ i, i < n → ∃ x, p i x) : ∃ f : Nat → α, ∀ i, i < n → p i (f i) :=
  ⟨fun i => if hi : i < n then (h i hi).choose else z, fun i hi => by simp only [hi, dif_pos]; exact (h i hi).choose_spec⟩
theorem add_plain_o (b off k : Nat) : (⟨b, off, none⟩ : Addr).add k = ⟨b, off + k, none⟩ := by unfold Addr.add; cases k <;> rfl

structure RowsO {α : Type} (cells : α → Array Value) (sz : Nat) (ok : World → α → Prop) (w : World) (so : Option Addr) (n : Nat) (xs : List α) : Prop where
  len : xs.length = n
  max : n ≤ 9223372036854775807
  cell : ∀ i x, xs[i]? = some x → ∃ b off, so = some ⟨b, off, none⟩ ∧ b < w.heap.size ∧ (∀ j, j < sz → w.cell? ⟨b, off + i * sz + j, none⟩ = (cells x)[j]?) ∧ ok w x
/-- a node of an argument -/
structure NdA (w : World) (x : Nde) : Prop where
  ok : x.ok w
  name : x.name.size ≤ maxLen
  parts : ∀ p, p ∈ x.parts → p.size ≤ maxLen
abbrev NdsAt (w : World) (so : Option Addr) (n : Nat) (xs : List Nde) : Prop := RowsO Nde.cells 6 NdA w so n xs
theorem NdsAt.low {w w' : World} {so : Option Addr} {n : Nat} {xs : List Nde} (h : NdsAt w so n xs) (hb : Below w.heap.size w w') : NdsAt w' so n xs :=
  ⟨h.len, h.max, fun i x hx => by
    obtain ⟨b, off, e, hlt, hc, ho⟩ := h.cell i x hx
    exact ⟨b, off, e, Nat.lt_of_lt_of_le hlt hb.size, fun j hj => (below_cell hb hlt).trans (hc j hj), ho.ok.low hb, ho.name, ho.parts⟩⟩

section
variable {H : Type} {enc : TypeId × Value → H} {w : World} {held : Bool} {fuel : Nat} {cs : List Value} {x : DataW H × List MemPlace}
theorem rowsO_of_trod {α : Type} (z : α) (cells : α → Array Value) (sz : Nat) (ok : World → α → Prop) {T E : TypeId} (hU : Tryz.prog.underlying T = some (.slice E)) (hc : Tryz.prog.cellsOf E = sz) (h0 : 0 < sz) (hsz : ∀ a, (cells a).size = sz)
    (hone : ∀ (fuel : Nat) (cs : List Value) (x : DataW H × List MemPlace), DataW.trod enc Tryz.prog w 0 (fun _ => true) held fuel E cs = some x → ∃ a, cs = (cells a).toList ∧ ok w a)
    {c : Value} (h : DataW.trod enc Tryz.prog w 0 (fun _ => true) held fuel T [c] = some x) : ∃ ao n cp xs, c = .slice ao n cp ∧ RowsO cells sz ok w ao n xs ∧ n ≤ cp := by
  rcases Go.Deep.open_slice hU h with ⟨hcs, _⟩ | ⟨a, len, cap, m, n, D, Pl, hcs, _, hl, hm, hmm, _, hi⟩
  · simp at hcs
    exact ⟨none, 0, 0, [], hcs, ⟨rfl, by omega, fun i x hx => by simp at hx⟩, Nat.le_refl _⟩
  · simp at hcs
    have mx : maxLen = 9223372036854775807 := by kernel_rfl
    have hmc : m = cap := by simpa using hmm
    have hc : ∀ i, i < len → ∃ x : α, ok w x ∧ ∀ j, j < sz → w.cell? (a.add (i * sz + j)) = (cells x)[j]? := fun i hil => by
      obtain ⟨cs', hc', ht⟩ := hi i (by omega)
      obtain ⟨x, rfl, ok⟩ := hone _ _ _ ht
      obtain ⟨_, _, hat⟩ := World.cells?_some hc'
      rw [hc] at hat
      exact ⟨x, ok, fun j hj => by rw [← Go.Deep.add_add, hat j hj]; simp⟩
    obtain ⟨f, hf2⟩ := choose_belowo z hc
    refine ⟨some a, len, cap, (List.range len).map f, hcs, ⟨by simp, by rw [mx] at hm; omega, fun i x hx => ?_⟩, hl⟩
    have hil : i < len := by
      have := (List.getElem?_eq_some_iff.1 hx).1
      simpa using this
    have hxe : x = f i := by
      rw [List.getElem?_map, List.getElem?_range hil] at hx
      simpa using hx.symm
    subst hxe
    have hz : ∀ i, i < len → (cells (f i))[0]? = some ((cells (f i))[0]'(by rw [hsz]; exact h0)) := fun i _ => by
      rw [Array.getElem?_eq_getElem]
    have h00 := (hf2 0 (by omega)).2 0 h0
    rw [hz 0 (by omega)] at h00
    obtain ⟨b, off, spot⟩ := a
    have hsp : spot = none := by simpa [Addr.add] using World.cell?_spot h00
    subst hsp
    have e : ∀ j, j < sz → w.cell? ⟨b, off + i * sz + j, none⟩ = (cells (f i))[j]? := fun j hj => by
      rw [← (hf2 i hil).2 j hj, add_plain_o, Nat.add_assoc]
    have e0 := e 0 h0
    rw [hz i hil] at e0
    exact ⟨b, off, rfl, World.block_lt_of_cell? w _ e0, e, (hf2 i hil).1⟩
theorem vecO_of_trod (h : DataW.trod enc Tryz.prog w 0 (fun _ => true) held fuel 23 cs = some x) : ∃ v : V4, cs = v.cells.toList := by
  obtain ⟨xs, m, _, _, hl, hn, hi⟩ := DataW.trod_array Tryz.underlying23 h
  rw [cel25] at hl
  obtain ⟨c0, c1, c2, c3, rfl⟩ := list4o hl
  have one : ∀ i, i < 4 → ∀ c : Value, (([c0, c1, c2, c3].drop (i * Tryz.prog.cellsOf 3)).take (Tryz.prog.cellsOf 3)) = [c] → ∃ n, c = .int .i64 n := fun i h4 c hc => by
    have h1 := hi i h4
    rw [hc, List.getElem?_eq_getElem (by omega)] at h1
    obtain ⟨n, e, _⟩ := DataW.trod_int Tryz.underlying3 h1
    exact ⟨n, by simpa using e⟩
  obtain ⟨n0, rfl⟩ := one 0 (by omega) c0 (by simp [cel3])
  obtain ⟨n1, rfl⟩ := one 1 (by omega) c1 (by simp [cel3])
  obtain ⟨n2, rfl⟩ := one 2 (by omega) c2 (by simp [cel3])
  obtain ⟨n3, rfl⟩ := one 3 (by omega) c3 (by simp [cel3])
  exact ⟨⟨n0, n1, n2, n3⟩, rfl⟩
end
section
variable {H : Type} {enc : TypeId × Value → H} {w : World} {held : Bool} {b0 : Nat} {r : Reach} {v : Value} {d : DataW H} {p : List MemPlace}
end
end Go.Proofs.YteoihdkaoipocaaGreatDoor

/- What an argument that is a spec reads as, opened. Plain theorems: no condition. -/
namespace Go.Proofs.YteoihdkaoipocaaGreatDoor
open Go.ChangeShapes Go.WideShapes Go.ChangeAt Go.RowKit

theorem wf_bd {n : Int} (h : (Lit.int .i64 n).wf = true) : -9223372036854775808 ≤ n ∧ n ≤ 9223372036854775807 := by
  simp [Lit.wf, IntKind.min, IntKind.max, IntKind.signed, IntKind.bits] at h
  omega
theorem cel4 : Tryz.prog.cellsOf 4 = 1 := by kernel_rfl
theorem cel26 : Tryz.prog.cellsOf 24 = 1 := by kernel_rfl
theorem cel28 : Tryz.prog.cellsOf 26 = 13 := by kernel_rfl
theorem list13o {α : Type} {l : List α} (h : l.length = 13) : ∃ a b c d e f g i j k m n o, l = [a, b, c, d, e, f, g, i, j, k, m, n, o] := by
  match l, h with
  | [a, b, c, d, e, f, g, i, j, k, m, n, o], _ => exact ⟨a, b, c, d, e, f, g, i, j, k, m, n, o, rfl⟩
section
variable {H : Type} {enc : TypeId × Value → H} {w : World} {held : Bool} {fuel : Nat} {cs : List Value} {x : DataW H × List MemPlace}
theorem intsO_of_trod {c : Value} (h : DataW.trod enc Tryz.prog w 0 (fun _ => true) held fuel 24 [c] = some x) : ∃ ao n cp xs, c = .slice ao n cp ∧ IntsAt w ao n xs ∧ n ≤ cp := by
  obtain ⟨ao, n, cp, xs, e, hr, hn⟩ := rowsO_of_trod (0 : Int) (fun s => #[.int .i64 s]) 1 (fun _ _ => True) Tryz.underlying24 cel3 (by decide) (fun _ => rfl) (fun fuel cs x h => by
    obtain ⟨s, e, _⟩ := DataW.trod_int Tryz.underlying3 h
    exact ⟨s, e, trivial⟩) h
  refine ⟨ao, n, cp, xs, e, ⟨hr.len, hr.max, fun i x hx => ?_⟩, hn⟩
  obtain ⟨b, off, e, hlt, hc, _⟩ := hr.cell i x hx
  have := hc 0 (by omega)
  rw [Nat.mul_one, Nat.add_zero] at this
  exact ⟨b, off, e, hlt, this⟩
set_option maxRecDepth 100000 in
theorem spec_of_trod (h : DataW.trod enc Tryz.prog w 0 (fun _ => true) held fuel 26 cs = some x) : ∃ a : Spv, cs = a.cells.toList ∧ a.ok w := by
  obtain ⟨xs, n, _, rfl, hl, hlen, hf⟩ := DataW.trod_struct Tryz.underlying26 h
  rw [cel28] at hl
  obtain ⟨c0, c1, c2, c3, c4, c5, c6, c7, c8, c9, c10, c11, c12, rfl⟩ := list13o hl
  match xs, hlen with
  | [y0, y1, y2, y3, y4, y5, y6, y7, y8, y9], _ =>
    have h0 := hf 0 _ rfl; have h1 := hf 1 _ rfl; have h2 := hf 2 _ rfl; have h3 := hf 3 _ rfl; have h4 := hf 4 _ rfl; have h5 := hf 5 _ rfl; have h6 := hf 6 _ rfl; have h7 := hf 7 _ rfl; have h8 := hf 8 _ rfl; have h9 := hf 9 _ rfl
    simp [cel9, cel25, cel3, cel4, cel26] at h0 h1 h2 h3 h4 h5 h6 h7 h8 h9
    obtain ⟨s0, e0, _, hs0⟩ := DataW.trod_string Tryz.underlying9 h0
    obtain ⟨s1, e1, _, hs1⟩ := DataW.trod_string Tryz.underlying9 h1
    obtain ⟨n2, e2, _⟩ := DataW.trod_int Tryz.underlying3 h2
    obtain ⟨v, ev⟩ := vecO_of_trod h3
    obtain ⟨n4, e4, _⟩ := DataW.trod_int Tryz.underlying3 h4
    obtain ⟨n5, e5, _⟩ := DataW.trod_int Tryz.underlying3 h5
    obtain ⟨n6, e6, _⟩ := DataW.trod_int Tryz.underlying3 h6
    obtain ⟨n7, e7, _⟩ := DataW.trod_int Tryz.underlying3 h7
    obtain ⟨b8, e8, _⟩ := DataW.trod_bool Tryz.underlying4 h8
    obtain ⟨so, m, cp, zs, rfl, hz, hmc⟩ := intsO_of_trod h9
    simp at e0 e1 e2 ev e4 e5 e6 e7 e8
    obtain ⟨rfl, rfl, rfl, rfl⟩ := ev
    subst e0 e1 e2 e4 e5 e6 e7 e8
    exact ⟨⟨⟨s0, s1, n2, v, n4, n5, n6, n7, b8, zs⟩, so, m, cp⟩, rfl, ⟨hz, hmc, hs0, hs1⟩⟩
end
section
variable {H : Type} {enc : TypeId × Value → H} {w : World} {held : Bool} {b0 : Nat} {r : Reach} {v : Value} {d : DataW H} {p : List MemPlace}
set_option maxRecDepth 100000 in
theorem open_spec (hv : Value.okWide Tryz.prog w r b0 26 v) (h : DataW.Trod enc Tryz.prog w 0 (fun _ => true) held 26 v d p) : ∃ a : Spv, v = a.val ∧ a.ok w := by
  obtain ⟨fuel, hf⟩ := h
  obtain ⟨cs, rfl⟩ : ∃ cs, v = .agg cs := by
    simp only [Value.okWide, Tryz.underlying26] at hv
    cases v <;> simp_all
  obtain ⟨a, e, hok⟩ := spec_of_trod hf
  refine ⟨a, ?_, hok⟩
  have e2 : cs = a.cells := Array.toList_inj.1 e
  rw [e2]
end
end Go.Proofs.YteoihdkaoipocaaGreatDoor

/- spec.Suits 45: does a spec fit a fleet at all? Plain theorems: no condition. -/
namespace Go.Proofs.YteoihdkaoipocaaGreatDoor
open Go.RowKit Go.Maps Go.Shelf Go.Sort

/-- the amounts of the node at a place -/
def capAt (vs : List Ndv) (i : Int) : V4 := if i < 0 then V4.zero else ((vs[i.toNat]?).map Ndv.cap).getD V4.zero
theorem node_cap {vs : List Ndv} {i : Int} {w w' : World} {e : Ending} (h : NodeAt vs i w e w') : ∃ (x : Nde) (b : Bool), e = .returned (.tuple #[x.val, .bool b]) ∧ x.cap = capAt vs i ∧ Below w.heap.size w w' := by
  obtain ⟨x, b, he, _, hb, _, hc⟩ := h
  refine ⟨x, b, he, ?_, hb⟩
  unfold capAt
  rcases hc with ⟨_, h0, hv⟩ | ⟨_, rfl, hv⟩
  · rw [if_neg (by omega), hv]; rfl
  · split
    · rfl
    · rw [List.getElem?_eq_none (by omega)]; rfl
/-- how many of the places do -/
def suitN (vs : List Ndv) (d : V4) (l : List Int) : Nat := (l.filter fun i => d.fits (capAt vs i)).length
theorem suitN_step {vs : List Ndv} {d : V4} {l : List Int} {k : Nat} {y : Int} (h : l[k]? = some y) : suitN vs d (l.take (k + 1)) = suitN vs d (l.take k) + if d.fits (capAt vs y) = true then 1 else 0 := by
  unfold suitN
  rw [take_step h, List.filter_append, List.length_append]
  congr 1
  by_cases q : d.fits (capAt vs y) = true <;> simp [q]
theorem suitN_le (vs : List Ndv) (d : V4) (l : List Int) : suitN vs d l ≤ l.length := List.length_filter_le _ _
def suitS (s : Spp) (vs : List Ndv) : Int :=
  if mayS s = false then 80 else if inOf vs s.part = [] then 81 else if (suitN vs s.dem (inOf vs s.part) : Int) < s.nodes then 82 else 0
set_option maxRecDepth 100000 in
set_option maxHeartbeats 3200000 in
theorem suits_any {w : World} {fb mb base : Nat} {vs : List Ndv} (h : Flt w fb mb base vs) (hok : FltOk vs) (x : Spv) (hx : x.ok w) : Calls Tryz.prog 9 #[.pointer (some ⟨fb, 0, none⟩), x.val] w fun e w' => e = .returned (.int .i64 (suitS x.pl vs)) ∧ Below w.heap.size w w' := by
  have hB0 := BoxC.new w x
  have hck := check_any x (w.alloc (.cells x.cells 26 (0, 0))) (hx.low hB0.low)
  obtain ⟨er, her⟩ : ∃ er, er = errS x.pl := ⟨_, rfl⟩
  rw [← her] at hck
  have hec : (er = 0 ∧ mayS x.pl = true) ∨ (er = 80 ∧ mayS x.pl = false) := by
    rw [her]; unfold errS
    cases mayS x.pl <;> simp
  clear her
  have hfl := h.below hB0.low
  obtain ⟨⟨user, part, nodes, ⟨da, db, dc, dd⟩, wall, prio, array, retries, held, after⟩, so, n, cp⟩ := x
  have c0 := blk_cell hB0.box 0; have c1 := blk_cell hB0.box 1; have c2 := blk_cell hB0.box 2; have c3 := blk_cell hB0.box 3; have c4 := blk_cell hB0.box 4; have c5 := blk_cell hB0.box 5; have c6 := blk_cell hB0.box 6; have c7 := blk_cell hB0.box 7; have c8 := blk_cell hB0.box 8; have c9 := blk_cell hB0.box 9; have c10 := blk_cell hB0.box 10; have c11 := blk_cell hB0.box 11; have c12 := blk_cell hB0.box 12
  simp at c0 c1 c2 c3 c4 c5 c6 c7 c8 c9 c10 c11 c12
  replace hB0 := Lib.hid hB0; replace hck := Lib.hid hck; replace hfl := Lib.hid hfl; replace h := Lib.hid h; replace hok := Lib.hid hok; replace hx := Lib.hid hx; replace hec := Lib.hid hec
  go_enter Tryz.func9, Tryz.ntmps9
  go_wp2_with fail
  refine hck.out.mono ?_
  rintro e w1 ⟨rfl, hb1⟩
  have hB1 := hB0.out.below hb1
  have hf1 := hfl.out.below hb1
  clear c0 c1 c2 c3 c4 c5 c6 c7 c8 c9 c10 c11 c12
  rcases hec.out with ⟨rfl, hms⟩ | ⟨rfl, hms⟩
  rotate_left
  · replace hb1 := Lib.hid hb1; replace hB1 := Lib.hid hB1; replace hf1 := Lib.hid hf1; replace hms := Lib.hid hms
    clear hec
    go_wp2
    go_ret
    exact ⟨by unfold suitS; rw [if_pos hms.out]; rfl, hB1.out.low⟩
  have y1 : w1.cell? ⟨w.heap.size, 1, none⟩ = some (.string part) := blk_cell hB1.box 1
  have hin := in_flt hf1 hok.out part
  clear hec
  replace hb1 := Lib.hid hb1; replace hB1 := Lib.hid hB1; replace hf1 := Lib.hid hf1; replace hms := Lib.hid hms; replace hin := Lib.hid hin
  go_wp2_with fail
  refine hin.out.mono ?_
  rintro e w2 ⟨v2, rfl, hO2, hb2⟩
  obtain ⟨po, pn, pc, rfl, hpc, hI2, hfr2⟩ := ownI_form hO2
  have hB2 := hB1.out.below hb2
  have hf2 := hf1.out.below hb2
  have hpl : (inOf vs part).length = pn := hI2.len
  have hpn : pn ≤ 16 := by have h1 := inFrom_len vs part 0; have h2 := hok.out.len; unfold inOf at hpl; omega
  by_cases q0 : pn = 0
  · subst q0
    replace hO2 := Lib.hid hO2; replace hb2 := Lib.hid hb2; replace hI2 := Lib.hid hI2; replace hfr2 := Lib.hid hfr2; replace hB2 := Lib.hid hB2; replace hf2 := Lib.hid hf2; replace hpl := Lib.hid hpl
    clear y1
    go_wp2
    go_ret
    exact ⟨by unfold suitS; rw [if_neg (by rw [hms.out]; simp), if_pos (List.length_eq_zero_iff.1 hpl.out)]; rfl, hB2.out.low⟩
  have q0' : ((pn : Int) == 0) = false := by rw [beq_eq_false_iff_ne]; omega
  clear y1
  replace hO2 := Lib.hid hO2; replace hb2 := Lib.hid hb2; replace hI2 := Lib.hid hI2; replace hfr2 := Lib.hid hfr2; replace hB2 := Lib.hid hB2; replace hf2 := Lib.hid hf2; replace hpl := Lib.hid hpl; replace q0 := Lib.hid q0
  go_wp2
  go_loopw [7, 9, 10, 11, 26] (fun m _ _ _ i wr => ∃ k : Nat, i = .int .i64 k ∧ k ≤ pn ∧ m = .int .i64 (suitN vs ⟨da, db, dc, dd⟩ ((inOf vs part).take k) : Nat) ∧ Hid (Below w2.heap.size w2 wr)) (fun _ _ _ _ i _ => pn - (intOf i).toNat)
  case atStart => exact ⟨0, rfl, Nat.zero_le _, rfl, Below.refl _ _⟩
  case round =>
    obtain ⟨k, rfl, hk, rfl, hB⟩ := hrel
    obtain ⟨z, hz⟩ : ∃ z, z = suitN vs ⟨da, db, dc, dd⟩ ((inOf vs part).take k) := ⟨_, rfl⟩
    rw [← hz]
    have hzl : z ≤ 16 := by
      have h1 := suitN_le vs ⟨da, db, dc, dd⟩ ((inOf vs part).take k)
      have h2 := List.length_take_le k (inOf vs part)
      omega
    have hBw := hB2.out.below hB.out
    have hfw := hf2.out.below hB.out
    by_cases hc : k < pn
    · have hc1 : (k : Int) < pn := by omega
      have hk0 : (0 : Int) ≤ (k : Int) := by omega
      obtain ⟨y, hy⟩ : ∃ y, (inOf vs part)[k]? = some y := ⟨_, List.getElem?_eq_getElem (by have := hpl.out; omega)⟩
      obtain ⟨b, off, rfl, hb, hcell⟩ := (hI2.out.low hB.out).cell k y hy
      have hnd := node_at hfw hok.out y
      have hst := suitN_step (vs := vs) (d := ⟨da, db, dc, dd⟩) hy
      rw [← hz] at hst
      have hwrap : IntKind.i64.wrap ((z : Int) + 1) = (z : Int) + 1 := IntWalk.i64_in _ (by omega)
      replace hy := Lib.hid hy; replace hnd := Lib.hid hnd; replace hst := Lib.hid hst; replace hBw := Lib.hid hBw; replace hfw := Lib.hid hfw; replace hz := Lib.hid hz
      go_wp2_with fail
      refine hnd.out.mono ?_
      intro e w3 hN
      obtain ⟨⟨nm, ⟨ca, cb, cc, cd⟩, qo, qn, qc, qs⟩, b3, rfl, hcap, hb3⟩ := node_cap hN
      clear hN
      replace hcap := Lib.hid hcap; replace hb3 := Lib.hid hb3
      go_upto_region 12 with fail
      obtain ⟨nb, hnb⟩ : ∃ nb, nb = w3.heap.size := ⟨_, rfl⟩
      obtain ⟨W4, hW4⟩ : ∃ W4, W4 = w3.alloc (.cells (⟨nm, ⟨ca, cb, cc, cd⟩, qo, qn, qc, qs⟩ : Nde).cells 73 (0, 0)) := ⟨_, rfl⟩
      have hb4 : Below w3.heap.size w3 W4 := by rw [hW4]; exact (Below.refl _ _).alloc (Nat.le_refl _) _
      have hn4 : W4.heap[nb]? = some (.cells (⟨nm, ⟨ca, cb, cc, cd⟩, qo, qn, qc, qs⟩ : Nde).cells 73 (0, 0)) := by rw [hW4, hnb]; exact blk_new _ _
      rw [← hW4, ← hnb]
      have hB4 := (hBw.out.below hb3.out).below hb4
      have hl4 : Below w2.heap.size w2 W4 := (hB.out.trans (hb3.out.mono hB.out.size)).trans (hb4.mono (hB.out.trans (hb3.out.mono hB.out.size)).size)
      clear hW4 hnb
      have y3 : W4.cell? ⟨w.heap.size, 3, none⟩ = some (.int .i64 da) := blk_cell hB4.box 3
      have y4 : W4.cell? ⟨w.heap.size, 4, none⟩ = some (.int .i64 db) := blk_cell hB4.box 4
      have y5 : W4.cell? ⟨w.heap.size, 5, none⟩ = some (.int .i64 dc) := blk_cell hB4.box 5
      have y6 : W4.cell? ⟨w.heap.size, 6, none⟩ = some (.int .i64 dd) := blk_cell hB4.box 6
      have n1 : W4.cell? ⟨nb, 1, none⟩ = some (.int .i64 ca) := blk_cell hn4 1
      have n2 : W4.cell? ⟨nb, 2, none⟩ = some (.int .i64 cb) := blk_cell hn4 2
      have n3 : W4.cell? ⟨nb, 3, none⟩ = some (.int .i64 cc) := blk_cell hn4 3
      have n4 : W4.cell? ⟨nb, 4, none⟩ = some (.int .i64 cd) := blk_cell hn4 4
      have hft := fits_any ⟨da, db, dc, dd⟩ ⟨ca, cb, cc, cd⟩ W4
      obtain ⟨q, hq⟩ : ∃ q, q = V4.fits ⟨da, db, dc, dd⟩ ⟨ca, cb, cc, cd⟩ := ⟨_, rfl⟩
      rw [← hq] at hft
      have hst2 := hst.out
      rw [show capAt vs y = ⟨ca, cb, cc, cd⟩ from hcap.out.symm, ← hq] at hst2
      clear hq hst hcap hcell
      replace hb4 := Lib.hid hb4; replace hn4 := Lib.hid hn4; replace hB4 := Lib.hid hB4; replace hl4 := Lib.hid hl4; replace hft := Lib.hid hft; replace hst2 := Lib.hid hst2
      go_wp2_with fail
      refine hft.out.mono ?_
      rintro e w5 ⟨rfl, hb5⟩
      have hl5 := hl4.out.trans (hb5.mono hl4.out.size)
      clear y3 y4 y5 y6 n1 n2 n3 n4
      replace hb5 := Lib.hid hb5; replace hl5 := Lib.hid hl5
      cases q with
      | true =>
        go_wp2
        go_roundw
        case rel => exact ⟨k + 1, by go_num, by omega, by rw [hst2.out]; first | rfl | simp, hl5.out⟩
        case measure => simp [intOf]; omega
      | false =>
        go_wp2
        go_roundw
        case rel => exact ⟨k + 1, by go_num, by omega, by rw [hst2.out]; first | rfl | simp, hl5.out⟩
        case measure => simp [intOf]; omega
    · have hc1 : ¬ (k : Int) < pn := by omega
      have hkn : k = pn := by omega
      have hzf : z = suitN vs ⟨da, db, dc, dd⟩ (inOf vs part) := by rw [hz, hkn, ← hpl.out, List.take_length]
      have y2 : wr.cell? ⟨w.heap.size, 2, none⟩ = some (.int .i64 nodes) := blk_cell hBw.box 2
      have hqe : inOf vs part ≠ [] := fun c => by have := hpl.out; rw [c] at this; exact q0.out this.symm
      clear hz hkn
      by_cases q3 : (z : Int) < nodes
      · replace hBw := Lib.hid hBw; replace hfw := Lib.hid hfw; replace hzf := Lib.hid hzf; replace hqe := Lib.hid hqe
        go_wp2
        go_ret
        exact ⟨by unfold suitS; rw [if_neg (by rw [hms.out]; simp), if_neg hqe.out, if_pos (by rw [← hzf.out]; exact q3)]; rfl, hBw.out.low⟩
      · replace hBw := Lib.hid hBw; replace hfw := Lib.hid hfw; replace hzf := Lib.hid hzf; replace hqe := Lib.hid hqe
        go_wp2
        go_ret
        exact ⟨by unfold suitS; rw [if_neg (by rw [hms.out]; simp), if_neg hqe.out, if_neg (by rw [← hzf.out]; exact Int.not_lt.2 q3)]; rfl, hBw.out.low⟩
end Go.Proofs.YteoihdkaoipocaaGreatDoor

/- The document's fits 41 and Suits 10: does a spec fit a fleet at all? Plain theorems: no condition. -/
namespace Go.Proofs.YteoihdkaoipocaaGreatDoor
open Go.RowKit Go.Maps Go.Shelf Go.Sort

set_option maxRecDepth 100000 in
set_option maxHeartbeats 1600000 in
theorem rfits_any (u v : V4) (w : World) : Calls Tryz.prog 41 #[u.val, v.val] w fun e w' => e = .returned (.bool (u.fits v)) ∧ Below w.heap.size w w' := by
  obtain ⟨a, b, c, d⟩ := u
  obtain ⟨a', b', c', d'⟩ := v
  have hb : Below w.heap.size w ((w.alloc (.cells (⟨a, b, c, d⟩ : V4).cells 23 (0, 0))).alloc (.cells (⟨a', b', c', d'⟩ : V4).cells 23 (0, 0))) := ((Below.refl _ _).alloc (Nat.le_refl _) _).alloc (by simp) _
  replace hb := Lib.hid hb
  go_enter Tryz.func41, Tryz.ntmps41
  go_wp2
  all_goals
    go_ret
    refine ⟨congrArg Ending.returned (congrArg Value.bool (?_ : (_ : Bool) = _)), hb.out⟩
    rw [Bool.eq_iff_iff]
    simp [V4.fits]
    try omega
theorem inFrom_mem {vs : List Ndv} {p : ByteArray} {y : Int} : ∀ {k : Nat}, y ∈ inFrom k vs p → ∃ i : Nat, y = i ∧ k ≤ i ∧ i < k + vs.length := by
  induction vs with
  | nil => intro k h; simp [inFrom] at h
  | cons v vs ih =>
    intro k h
    rw [inFrom] at h
    rw [List.length_cons]
    split at h
    · rcases List.mem_cons.1 h with h | h
      · exact ⟨k, h, Nat.le_refl _, by omega⟩
      · obtain ⟨i, e, h1, h2⟩ := ih h
        exact ⟨i, e, by omega, by omega⟩
    · obtain ⟨i, e, h1, h2⟩ := ih h
      exact ⟨i, e, by omega, by omega⟩
theorem inOf_at {vs : List Ndv} {p : ByteArray} {k : Nat} {y : Int} (h : (inOf vs p)[k]? = some y) : ∃ i : Nat, y = i ∧ i < vs.length := by
  obtain ⟨i, e, _, h2⟩ := inFrom_mem (List.mem_of_getElem? h)
  exact ⟨i, e, by omega⟩
theorem capAt_pl {xs : List Nde} {i : Nat} {x : Nde} (h : xs[i]? = some x) : capAt (xs.map Nde.pl) (i : Int) = x.cap := by
  unfold capAt
  rw [if_neg (by omega), Int.toNat_natCast, List.getElem?_map, h]
  rfl
structure SuW (w : World) (nv : Value) (x : Spv) (wr : World) : Prop where
  low : Below w.heap.size w wr
  fbox : wr.heap[w.heap.size]? = some (.cells #[nv] 34 (0, 0))
  sbox : wr.heap[w.heap.size + 1]? = some (.cells x.cells 26 (0, 0))
theorem SuW.below {w wr w' : World} {nv : Value} {x : Spv} (h : SuW w nv x wr) (hb : Below wr.heap.size wr w') : SuW w nv x w' :=
  ⟨h.low.trans (hb.mono h.low.size), blk_below hb h.fbox (blk_lt h.fbox), blk_below hb h.sbox (blk_lt h.sbox)⟩
structure SuC (w : World) (q : Bool) (bv : Value) (wx : World) : Prop where
  b : bv = .bool q
  low : Below w.heap.size w wx
set_option maxRecDepth 100000 in
set_option maxHeartbeats 3200000 in
theorem rsuits_any {w : World} {base : Nat} {nv : Value} {xs : List Nde} (hF : FlR w base nv xs) (hok : FltOk (xs.map Nde.pl)) (x : Spv) (hx : x.ok w) : Calls Tryz.prog 10 #[.agg #[nv], x.val] w fun e w' => e = .returned (.int .i64 (suitS x.pl (xs.map Nde.pl))) ∧ Below w.heap.size w w' := by
  have hS0 : SuW w nv x ((w.alloc (.cells #[nv] 34 (0, 0))).alloc (.cells x.cells 26 (0, 0))) := ⟨((Below.refl _ _).alloc (Nat.le_refl _) _).alloc (by simp) _, blk_old _ (blk_new _ _), by rw [show w.heap.size + 1 = (w.alloc (.cells #[nv] 34 (0, 0))).heap.size by simp]; exact blk_new _ _⟩
  have hck := may_any x _ (hx.low hS0.low)
  obtain ⟨ms, hms⟩ : ∃ ms, ms = mayS x.pl := ⟨_, rfl⟩
  rw [← hms] at hck
  have hlx : xs.length ≤ 16 := by have := hok.len; rwa [List.length_map] at this
  obtain ⟨vs, hvs⟩ : ∃ vs, vs = xs.map Nde.pl := ⟨_, rfl⟩
  rw [← hvs] at hok
  rw [← hvs]
  have hlv : vs.length = xs.length := by rw [hvs, List.length_map]
  obtain ⟨⟨user, part, nodes, ⟨da, db, dc, dd⟩, wall, prio, array, retries, held, after⟩, so, n, cp⟩ := x
  have c0 := blk_cell hS0.sbox 0; have c1 := blk_cell hS0.sbox 1; have c2 := blk_cell hS0.sbox 2; have c3 := blk_cell hS0.sbox 3; have c4 := blk_cell hS0.sbox 4; have c5 := blk_cell hS0.sbox 5; have c6 := blk_cell hS0.sbox 6; have c7 := blk_cell hS0.sbox 7; have c8 := blk_cell hS0.sbox 8; have c9 := blk_cell hS0.sbox 9; have c10 := blk_cell hS0.sbox 10; have c11 := blk_cell hS0.sbox 11; have c12 := blk_cell hS0.sbox 12
  simp at c0 c1 c2 c3 c4 c5 c6 c7 c8 c9 c10 c11 c12
  replace hS0 := Lib.hid hS0; replace hck := Lib.hid hck; replace hF := Lib.hid hF; replace hok := Lib.hid hok; replace hx := Lib.hid hx; replace hms := Lib.hid hms; replace hlx := Lib.hid hlx; replace hvs := Lib.hid hvs; replace hlv := Lib.hid hlv
  go_enter Tryz.func10, Tryz.ntmps10
  go_wp2_with fail
  refine hck.out.mono ?_
  rintro e w1 ⟨rfl, hb1⟩
  have hS1 := hS0.out.below hb1
  have hF1 := hF.out.below hS1.low
  clear c0 c1 c2 c3 c4 c5 c6 c7 c8 c9 c10 c11 c12
  cases ms with
  | false =>
    replace hb1 := Lib.hid hb1; replace hS1 := Lib.hid hS1; replace hF1 := Lib.hid hF1
    go_wp2
    go_ret
    exact ⟨by unfold suitS; rw [if_pos hms.out.symm]; rfl, hS1.out.low⟩
  | true =>
  have hmt : ¬ (mayS (⟨⟨user, part, nodes, ⟨da, db, dc, dd⟩, wall, prio, array, retries, held, after⟩, so, n, cp⟩ : Spv).pl = false) := by rw [← hms.out]; simp
  have y0 : w1.cell? ⟨w.heap.size, 0, none⟩ = some nv := blk_cell hS1.fbox 0
  have y1 : w1.cell? ⟨w.heap.size + 1, 1, none⟩ = some (.string part) := blk_cell hS1.sbox 1
  have hin := rin_any w1 base nv xs part hF1 (by have := hlx.out; omega)
  rw [← hvs.out] at hin
  replace hb1 := Lib.hid hb1; replace hS1 := Lib.hid hS1; replace hF1 := Lib.hid hF1; replace hin := Lib.hid hin; replace hmt := Lib.hid hmt
  go_wp2_with fail
  refine hin.out.mono ?_
  rintro e w2 ⟨v2, rfl, hO2, hb2⟩
  obtain ⟨po, pn, pc, rfl, hpc, hI2, hfr2⟩ := ownI_form hO2
  have hS2 := hS1.out.below hb2
  have hF2 := hF1.out.below hb2
  have hpl : (inOf vs part).length = pn := hI2.len
  have hpn : pn ≤ 16 := by have h1 := inOf_len vs part; have h2 := hlv.out; have h3 := hlx.out; omega
  clear y0 y1
  by_cases q0 : pn = 0
  · subst q0
    replace hO2 := Lib.hid hO2; replace hb2 := Lib.hid hb2; replace hI2 := Lib.hid hI2; replace hfr2 := Lib.hid hfr2; replace hS2 := Lib.hid hS2; replace hF2 := Lib.hid hF2; replace hpl := Lib.hid hpl
    go_wp2
    go_ret
    exact ⟨by unfold suitS; rw [if_neg hmt.out, if_pos (List.length_eq_zero_iff.1 hpl.out)]; rfl, hS2.out.low⟩
  have q0' : ((pn : Int) == 0) = false := by rw [beq_eq_false_iff_ne]; omega
  replace hO2 := Lib.hid hO2; replace hb2 := Lib.hid hb2; replace hI2 := Lib.hid hI2; replace hfr2 := Lib.hid hfr2; replace hS2 := Lib.hid hS2; replace hF2 := Lib.hid hF2; replace hpl := Lib.hid hpl; replace q0 := Lib.hid q0
  go_wp2
  go_loopw [7, 8] (fun m i wr => ∃ k : Nat, i = .int .i64 k ∧ k ≤ pn ∧ m = .int .i64 (suitN vs ⟨da, db, dc, dd⟩ ((inOf vs part).take k) : Nat) ∧ Hid (Below w2.heap.size w2 wr)) (fun _ i _ => pn - (intOf i).toNat)
  case atStart => exact ⟨0, rfl, Nat.zero_le _, rfl, Below.refl _ _⟩
  case round =>
    obtain ⟨k, rfl, hk, rfl, hB⟩ := hrel
    obtain ⟨z, hz⟩ : ∃ z, z = suitN vs ⟨da, db, dc, dd⟩ ((inOf vs part).take k) := ⟨_, rfl⟩
    rw [← hz]
    have hzl : z ≤ 16 := by
      have h1 := suitN_le vs ⟨da, db, dc, dd⟩ ((inOf vs part).take k)
      have h2 := List.length_take_le k (inOf vs part)
      omega
    have hSw := hS2.out.below hB.out
    have hFw := hF2.out.below hB.out
    by_cases hc : k < pn
    · have hc1 : (k : Int) < pn := by omega
      have hk0 : (0 : Int) ≤ (k : Int) := by omega
      obtain ⟨y, hy⟩ : ∃ y, (inOf vs part)[k]? = some y := ⟨_, List.getElem?_eq_getElem (by have := hpl.out; omega)⟩
      obtain ⟨b, off, rfl, hb, hcell⟩ := (hI2.out.low hB.out).cell k y hy
      have hst := suitN_step (vs := vs) (d := ⟨da, db, dc, dd⟩) hy
      rw [← hz] at hst
      obtain ⟨yi, rfl, hyi⟩ := inOf_at hy
      obtain ⟨⟨nm, ⟨ca, cb, cc, cd⟩, qo, qn, qc, qs⟩, hxi⟩ : ∃ x, xs[yi]? = some x := ⟨_, List.getElem?_eq_getElem (by have := hlv.out; omega)⟩
      obtain ⟨g, cap, rfl, hg, _, hcn⟩ := hFw.cell hxi
      rw [hvs.out, capAt_pl hxi] at hst
      rw [← hvs.out] at hst
      have hyl : (yi : Int) < (xs.length : Int) := by have := hlv.out; omega
      have hy0 : (0 : Int) ≤ (yi : Int) := by omega
      have hwrap : IntKind.i64.wrap ((z : Int) + 1) = (z : Int) + 1 := IntWalk.i64_in _ (by omega)
      have hft := fun W => rfits_any ⟨da, db, dc, dd⟩ ⟨ca, cb, cc, cd⟩ W
      obtain ⟨q, hq⟩ : ∃ q, q = V4.fits ⟨da, db, dc, dd⟩ ⟨ca, cb, cc, cd⟩ := ⟨_, rfl⟩
      simp only [← hq] at hft
      have hst2 : suitN vs ⟨da, db, dc, dd⟩ ((inOf vs part).take (k + 1)) = z + if q = true then 1 else 0 := by rw [hq]; exact hst
      have hS : ∀ W', Below wr.heap.size wr W' → W'.cell? ⟨w.heap.size, 0, none⟩ = some (.slice (some ⟨g, 0, none⟩) xs.length cap) ∧ W'.cell? ⟨w.heap.size + 1, 3, none⟩ = some (.int .i64 da) ∧ W'.cell? ⟨w.heap.size + 1, 4, none⟩ = some (.int .i64 db) ∧ W'.cell? ⟨w.heap.size + 1, 5, none⟩ = some (.int .i64 dc) ∧ W'.cell? ⟨w.heap.size + 1, 6, none⟩ = some (.int .i64 dd) ∧ W'.cell? ⟨b, off + k, none⟩ = some (.int .i64 (yi : Int)) ∧ W'.cell? ⟨g, yi * 6 + 1, none⟩ = some (.int .i64 ca) ∧ W'.cell? ⟨g, yi * 6 + 2, none⟩ = some (.int .i64 cb) ∧ W'.cell? ⟨g, yi * 6 + 3, none⟩ = some (.int .i64 cc) ∧ W'.cell? ⟨g, yi * 6 + 4, none⟩ = some (.int .i64 cd) := fun W' h =>
        ⟨(below_cell h (blk_lt hSw.fbox)).trans (blk_cell hSw.fbox 0), (below_cell h (blk_lt hSw.sbox)).trans (blk_cell hSw.sbox 3), (below_cell h (blk_lt hSw.sbox)).trans (blk_cell hSw.sbox 4), (below_cell h (blk_lt hSw.sbox)).trans (blk_cell hSw.sbox 5), (below_cell h (blk_lt hSw.sbox)).trans (blk_cell hSw.sbox 6), (below_cell h hb).trans hcell, (below_cell h hg).trans (hcn 1 (by omega)), (below_cell h hg).trans (hcn 2 (by omega)), (below_cell h hg).trans (hcn 3 (by omega)), (below_cell h hg).trans (hcn 4 (by omega))⟩
      have hcur : Below wr.heap.size wr wr.drew := (Below.refl _ _).drew
      clear hst
      replace hSw := Lib.hid hSw; replace hFw := Lib.hid hFw; replace hy := Lib.hid hy; replace hcell := Lib.hid hcell; replace hyi := Lib.hid hyi; replace hxi := Lib.hid hxi; replace hcn := Lib.hid hcn; replace hft := Lib.hid hft; replace hq := Lib.hid hq; replace hst2 := Lib.hid hst2; replace hS := Lib.hid hS; replace hcur := Lib.hid hcur; replace hz := Lib.hid hz; replace hg := Lib.hid hg; replace hb := Lib.hid hb
      go_upto_region 11 with fail
      go_cut [37] (fun bv wx => SuC wr q bv wx)
      case first =>
        go_region_held3 (fun W' => W'.cell? ⟨w.heap.size, 0, none⟩ = some (.slice (some ⟨g, 0, none⟩) xs.length cap) ∧ W'.cell? ⟨w.heap.size + 1, 3, none⟩ = some (.int .i64 da) ∧ W'.cell? ⟨w.heap.size + 1, 4, none⟩ = some (.int .i64 db) ∧ W'.cell? ⟨w.heap.size + 1, 5, none⟩ = some (.int .i64 dc) ∧ W'.cell? ⟨w.heap.size + 1, 6, none⟩ = some (.int .i64 dd) ∧ W'.cell? ⟨b, off + k, none⟩ = some (.int .i64 (yi : Int)) ∧ W'.cell? ⟨g, yi * 6 + 1, none⟩ = some (.int .i64 ca) ∧ W'.cell? ⟨g, yi * 6 + 2, none⟩ = some (.int .i64 cb) ∧ W'.cell? ⟨g, yi * 6 + 3, none⟩ = some (.int .i64 cc) ∧ W'.cell? ⟨g, yi * 6 + 4, none⟩ = some (.int .i64 cd))
          (first
            | with_reducible exact hS.out _ hcur.out)
          (first
            | (go_at_call 41
               (with_reducible refine (hft.out _).mono ?_)
               rintro e wz ⟨rfl, hbz⟩
               replace hcur := Lib.hid (hcur.out.trans (hbz.mono hcur.out.size))
               clear hbz))
        all_goals
          go_wp2_with fail
          go_meet
          case rel => exact ⟨rfl, hcur.out⟩
      case rest =>
      obtain ⟨rfl, hl9⟩ := hcut
      have hlow9 := hB.out.trans (hl9.mono hB.out.size)
      replace hl9 := Lib.hid hl9; replace hlow9 := Lib.hid hlow9
      cases q with
      | true =>
        go_wp2
        go_roundw
        case rel => exact ⟨k + 1, by go_num, by omega, by rw [hst2.out]; first | rfl | simp, hlow9.out⟩
        case measure => simp [intOf]; omega
      | false =>
        go_wp2
        go_roundw
        case rel => exact ⟨k + 1, by go_num, by omega, by rw [hst2.out]; first | rfl | simp, hlow9.out⟩
        case measure => simp [intOf]; omega
    · have hc1 : ¬ (k : Int) < pn := by omega
      have hkn : k = pn := by omega
      have hzf : z = suitN vs ⟨da, db, dc, dd⟩ (inOf vs part) := by rw [hz, hkn, ← hpl.out, List.take_length]
      have y2 : wr.cell? ⟨w.heap.size + 1, 2, none⟩ = some (.int .i64 nodes) := blk_cell hSw.sbox 2
      have hqe : inOf vs part ≠ [] := fun c => by have := hpl.out; rw [c] at this; exact q0.out this.symm
      clear hz hkn
      by_cases q3 : (z : Int) < nodes
      · replace hSw := Lib.hid hSw; replace hFw := Lib.hid hFw; replace hzf := Lib.hid hzf; replace hqe := Lib.hid hqe
        go_wp2
        go_ret
        exact ⟨by unfold suitS; rw [if_neg hmt.out, if_neg hqe.out, if_pos (by rw [← hzf.out]; exact q3)]; rfl, hSw.out.low⟩
      · replace hSw := Lib.hid hSw; replace hFw := Lib.hid hFw; replace hzf := Lib.hid hzf; replace hqe := Lib.hid hqe
        go_wp2
        go_ret
        exact ⟨by unfold suitS; rw [if_neg hmt.out, if_neg hqe.out, if_neg (by rw [← hzf.out]; exact Int.not_lt.2 q3)]; rfl, hSw.out.low⟩
end Go.Proofs.YteoihdkaoipocaaGreatDoor

/- corveelaw08.SpecSuits: whether any spec fits any fleet, and why not. Plain theorems: no condition. -/
namespace Go.Proofs.YteoihdkaoipocaaGreatDoor
open Go.RowKit Go.Maps Go.Shelf Go.Sort

theorem readOf_good (s : ByteArray) : FltOk (readOf s).1 := by
  unfold readOf
  split
  · exact fltOk_nil
  · exact readTo_good _ _ fltOk_nil
set_option maxRecDepth 100000 in
set_option maxHeartbeats 3200000 in
theorem ssuits_any (s : ByteArray) (x : Spv) (w : World) (hx : x.ok w) (hm : Mx w) (ht : Tb w) : Calls Tryz.prog 3 #[.string s, x.val] w fun e w' => e = .returned (.bool true) ∧ Below w.heap.size w w' := by
  have hB0 := BoxC.new w x
  have hc1 := awake8 (w.alloc (.cells x.cells 26 (0, 0))) (hm.low hB0.low) (ht.low hB0.low)
  obtain ⟨⟨user, part, nodes, ⟨da, db, dc, dd⟩, wall, prio, array, retries, held, after⟩, sso, sn, scp⟩ := x
  obtain ⟨X, hX⟩ : ∃ X : Spv, X = ⟨⟨user, part, nodes, ⟨da, db, dc, dd⟩, wall, prio, array, retries, held, after⟩, sso, sn, scp⟩ := ⟨_, rfl⟩
  by_cases q1 : 1000 < sn
  · have d1 : decide ((1000 : Int) < sn) = true := decide_eq_true (by omega)
    have d1' : decide (1000 < sn) = true := decide_eq_true q1
    replace hc1 := Lib.hid hc1; replace hB0 := Lib.hid hB0; replace hx := Lib.hid hx; replace hm := Lib.hid hm; replace ht := Lib.hid ht; replace hX := Lib.hid hX
    go_enter Tryz.func3, Tryz.ntmps3
    go_wp2_with fail
    refine hc1.out.mono ?_
    rintro e w1 ⟨rfl, hb1⟩
    have hB1 := hB0.out.below hb1
    have y12 : w1.cell? ⟨w.heap.size, 12, none⟩ = some (.slice sso sn scp) := blk_cell hB1.box 12
    replace hb1 := Lib.hid hb1; replace hB1 := Lib.hid hB1
    go_wp2
    go_ret
    exact ⟨rfl, hB1.out.low⟩
  have d1 : decide ((1000 : Int) < sn) = false := decide_eq_false (by omega)
  have d1' : decide (1000 < sn) = false := decide_eq_false q1
  replace hc1 := Lib.hid hc1; replace hB0 := Lib.hid hB0; replace hx := Lib.hid hx; replace hm := Lib.hid hm; replace ht := Lib.hid ht; replace hX := Lib.hid hX
  go_enter Tryz.func3, Tryz.ntmps3
  go_wp2_with fail
  refine hc1.out.mono ?_
  rintro e w1 ⟨rfl, hb1⟩
  have hB1 := hB0.out.below hb1
  have y12 : w1.cell? ⟨w.heap.size, 12, none⟩ = some (.slice sso sn scp) := blk_cell hB1.box 12
  have hrd := read_any s w1 (hm.out.low hB1.low)
  replace hb1 := Lib.hid hb1; replace hB1 := Lib.hid hB1; replace hrd := Lib.hid hrd
  go_wp2_with fail
  refine hrd.out.mono ?_
  rintro e w2 ⟨p, rfl, hb2, hp⟩
  have hB2 := hB1.out.below hb2
  obtain ⟨er, her⟩ : ∃ er, er = (readOf s).2.1 := ⟨_, rfl⟩
  obtain ⟨ln, hln⟩ : ∃ ln, ln = (readOf s).2.2 := ⟨_, rfl⟩
  rw [← her] at hp ⊢
  rw [← hln]
  clear y12
  by_cases q2 : er = 0
  rotate_left
  · have d2 : (er != (0 : Int)) = true := bne_iff_ne.2 q2
    have hp2 : p = none := by
      rcases hp with ⟨_, h⟩ | ⟨h, _⟩
      · exact h
      · exact absurd h q2
    subst hp2
    replace hb2 := Lib.hid hb2; replace hB2 := Lib.hid hB2; replace q2 := Lib.hid q2; replace her := Lib.hid her; replace hln := Lib.hid hln
    clear hp
    go_wp2
    go_ret
    exact ⟨rfl, hB2.out.low⟩
  have d2 : (er != (0 : Int)) = false := by rw [q2]; rfl
  obtain ⟨fb, mb, base, rfl, hF⟩ : ∃ fb mb base, p = some ⟨fb, 0, none⟩ ∧ Flt w2 fb mb base (readOf s).1 := by
    rcases hp with ⟨h, _⟩ | ⟨_, h, hF⟩
    · exact absurd q2 h
    · exact ⟨_, _, _, h, hF⟩
  have hok := readOf_good s
  have hrr := rread_any s w2
  have hr0 : (readOf s).2.1 = 0 := by rw [← her]; exact q2
  clear hp
  replace hb2 := Lib.hid hb2; replace hB2 := Lib.hid hB2; replace q2 := Lib.hid q2; replace her := Lib.hid her; replace hln := Lib.hid hln; replace hF := Lib.hid hF; replace hok := Lib.hid hok; replace hrr := Lib.hid hrr; replace hr0 := Lib.hid hr0
  go_wp2_with fail
  refine hrr.out.mono ?_
  rintro e w3 ⟨nv, xs, rfl, hb3, hR, hxs⟩
  obtain ⟨so, m0, c0, rfl⟩ : ∃ so m0 c0, nv = .slice so m0 c0 := by
    rcases hR.row.2 with ⟨h, _⟩ | ⟨g, cap, _, h, _⟩
    · exact ⟨_, _, _, h⟩
    · exact ⟨_, _, _, h⟩
  have hB3 := hB2.out.below hb3
  have hF3 := hF.out.below hb3
  have hxs2 := hxs hr0.out
  obtain ⟨W4, hW4⟩ : ∃ W4, W4 = w3.alloc (.cells #[.slice so m0 c0] 34 (0, 0)) := ⟨_, rfl⟩
  obtain ⟨nb, hnb⟩ : ∃ nb, nb = w3.heap.size := ⟨_, rfl⟩
  have hb4 : Below w3.heap.size w3 W4 := by rw [hW4]; exact (Below.refl _ _).alloc (Nat.le_refl _) _
  have hn4 : W4.heap[nb]? = some (.cells #[.slice so m0 c0] 34 (0, 0)) := by rw [hW4, hnb]; exact blk_new _ _
  have hB4 := hB3.below hb4
  have hF4 := hF3.below hb4
  have hR4 := hR.below hb4
  clear hxs
  obtain ⟨er2, her2⟩ : ∃ er2, er2 = (readOf s).2.1 := ⟨_, rfl⟩
  obtain ⟨ln2, hln2⟩ : ∃ ln2, ln2 = (readOf s).2.2 := ⟨_, rfl⟩
  rw [← her2, ← hln2]
  have hW4' := Lib.hid hW4; have hnb' := Lib.hid hnb
  clear hW4 hnb
  have hk1 : ∀ W, Below W4.heap.size W4 W → Calls Tryz.prog 9 #[.pointer (some ⟨fb, 0, none⟩), X.val] W fun e w' => e = .returned (.int .i64 (suitS X.pl (readOf s).1)) ∧ Below W.heap.size W w' := fun W h => suits_any (hF4.below h) hok.out X (by rw [hX.out]; exact hx.out.low (hB4.low.trans (h.mono hB4.low.size)))
  have hk2 : ∀ W, Below W4.heap.size W4 W → Calls Tryz.prog 10 #[.agg #[.slice so m0 c0], X.val] W fun e w' => e = .returned (.int .i64 (suitS X.pl (readOf s).1)) ∧ Below W.heap.size W w' := fun W h => by
    have h2 := rsuits_any (hR4.below h) (by rw [hxs2]; exact hok.out) X (by rw [hX.out]; exact hx.out.low (hB4.low.trans (h.mono hB4.low.size)))
    rw [hxs2] at h2
    exact h2
  obtain ⟨E, hE⟩ : ∃ E, E = suitS X.pl (readOf s).1 := ⟨_, rfl⟩
  simp only [← hE] at hk1 hk2
  have dE : (E == E) = true := by simp
  rw [hX.out] at hk1 hk2
  have hS : ∀ W', Below W4.heap.size W4 W' → W'.cell? ⟨nb, 0, none⟩ = some (.slice so m0 c0) ∧ W'.cell? ⟨w.heap.size, 0, none⟩ = some (.string user) ∧ W'.cell? ⟨w.heap.size, 1, none⟩ = some (.string part) ∧ W'.cell? ⟨w.heap.size, 2, none⟩ = some (.int .i64 nodes) ∧ W'.cell? ⟨w.heap.size, 3, none⟩ = some (.int .i64 da) ∧ W'.cell? ⟨w.heap.size, 4, none⟩ = some (.int .i64 db) ∧ W'.cell? ⟨w.heap.size, 5, none⟩ = some (.int .i64 dc) ∧ W'.cell? ⟨w.heap.size, 6, none⟩ = some (.int .i64 dd) ∧ W'.cell? ⟨w.heap.size, 7, none⟩ = some (.int .i64 wall) ∧ W'.cell? ⟨w.heap.size, 8, none⟩ = some (.int .i64 prio) ∧ W'.cell? ⟨w.heap.size, 9, none⟩ = some (.int .i64 array) ∧ W'.cell? ⟨w.heap.size, 10, none⟩ = some (.int .i64 retries) ∧ W'.cell? ⟨w.heap.size, 11, none⟩ = some (.bool held) ∧ W'.cell? ⟨w.heap.size, 12, none⟩ = some (.slice sso sn scp) := fun W' h => by
    have h1 := blk_below h hn4 (blk_lt hn4)
    have h2 := (hB4.below h).box
    exact ⟨blk_cell h1 0, blk_cell h2 0, blk_cell h2 1, blk_cell h2 2, blk_cell h2 3, blk_cell h2 4, blk_cell h2 5, blk_cell h2 6, blk_cell h2 7, blk_cell h2 8, blk_cell h2 9, blk_cell h2 10, blk_cell h2 11, blk_cell h2 12⟩
  have hcur : Below W4.heap.size W4 W4.drew := (Below.refl _ _).drew
  replace hb3 := Lib.hid hb3; replace hB3 := Lib.hid hB3; replace hF3 := Lib.hid hF3; replace hb4 := Lib.hid hb4; replace hn4 := Lib.hid hn4; replace hB4 := Lib.hid hB4; replace hF4 := Lib.hid hF4; replace hR4 := Lib.hid hR4; replace hxs2 := Lib.hid hxs2; replace hk1 := Lib.hid hk1; replace hk2 := Lib.hid hk2; replace hE := Lib.hid hE; replace hS := Lib.hid hS; replace hcur := Lib.hid hcur; replace hR := Lib.hid hR; replace her2 := Lib.hid her2; replace hln2 := Lib.hid hln2
  go_upto_region 10 with fail
  rw [← hW4'.out, ← hnb'.out]
  go_region_held3 (fun W' => W'.cell? ⟨nb, 0, none⟩ = some (.slice so m0 c0) ∧ W'.cell? ⟨w.heap.size, 0, none⟩ = some (.string user) ∧ W'.cell? ⟨w.heap.size, 1, none⟩ = some (.string part) ∧ W'.cell? ⟨w.heap.size, 2, none⟩ = some (.int .i64 nodes) ∧ W'.cell? ⟨w.heap.size, 3, none⟩ = some (.int .i64 da) ∧ W'.cell? ⟨w.heap.size, 4, none⟩ = some (.int .i64 db) ∧ W'.cell? ⟨w.heap.size, 5, none⟩ = some (.int .i64 dc) ∧ W'.cell? ⟨w.heap.size, 6, none⟩ = some (.int .i64 dd) ∧ W'.cell? ⟨w.heap.size, 7, none⟩ = some (.int .i64 wall) ∧ W'.cell? ⟨w.heap.size, 8, none⟩ = some (.int .i64 prio) ∧ W'.cell? ⟨w.heap.size, 9, none⟩ = some (.int .i64 array) ∧ W'.cell? ⟨w.heap.size, 10, none⟩ = some (.int .i64 retries) ∧ W'.cell? ⟨w.heap.size, 11, none⟩ = some (.bool held) ∧ W'.cell? ⟨w.heap.size, 12, none⟩ = some (.slice sso sn scp))
    (first
      | with_reducible exact hS.out _ hcur.out)
    (first
      | (go_at_call 9
         (with_reducible refine (hk1.out _ hcur.out).mono ?_)
         rintro e wz ⟨rfl, hbz⟩
         replace hcur := Lib.hid (hcur.out.trans (hbz.mono hcur.out.size))
         clear hbz)
      | (go_at_call 10
         (with_reducible refine (hk2.out _ hcur.out).mono ?_)
         rintro e wz ⟨rfl, hbz⟩
         replace hcur := Lib.hid (hcur.out.trans (hbz.mono hcur.out.size))
         clear hbz))
  all_goals
    go_wp2
    go_ret
    exact ⟨rfl, hB4.out.low.trans (hcur.out.mono hB4.out.low.size)⟩
end Go.Proofs.YteoihdkaoipocaaGreatDoor

namespace Go.Proofs.YteoihdkaoipocaaGreatDoor
open Go.ChangeShapes Go.WideShapes Go.ChangeAt Go.RowKit Go.ChangeMaps

set_option maxRecDepth 100000 in
theorem specSuits_lifted (os : Os) (started : os.Started) (H : Type) (enc : TypeId × Value → H) :
    ReturnsInHanded {} Tryz.checked os 3 .any (fun w args => (Rows.specSuitsSpec.pre enc Tryz.prog Tryz.f3 Rows.specSuitsRow.domain false w args ∧ laidMetH Tryz.prog Rows.specSuitsRow.laid w) ∧ sizedMet enc Tryz.prog Tryz.f3 (OpenSpec.ofChange Rows.specSuitsSpec) false w args)
      (Rows.specSuitsSpec.post enc Tryz.prog Tryz.f3 false true false false) := by
  refine returns_laid (C := Tryz.checked) (X := fun w _ => laidMetH Tryz.prog Rows.specSuitsRow.laid w) (fun _ _ _ hh h => h.of_heap hh) own started (by kernel_rfl) Tryz.func3
    (ChangeSpec.witness_shaped (enc := enc) (C := Tryz.checked) (os := os) (X := fun w _ => laidMetH Tryz.prog Rows.specSuitsRow.laid w) false (World.laidAll Tryz.prog os Rows.specSuitsRow.laid) #[.string ByteArray.empty, .agg #[.string ByteArray.empty, .string ByteArray.empty, .int .i64 0, .int .i64 0, .int .i64 0, .int .i64 0, .int .i64 0, .int .i64 0, .int .i64 0, .int .i64 0, .int .i64 0, .bool false, .slice none 0 0]] 8 (World.laidAll_os _ _ _)
      (World.shaped_of_ZipB (by kernel_rfl) (by kernel_rfl)) (by kernel_rfl) (by kernel_rfl) (by kernel_rfl)
      (by rw [MakeChecks.laidMetH_plain _ _ _ (by kernel_rfl)]; exact laidMet_laidAll _ (by kernel_rfl) (by kernel_rfl))) ?_
  intro W base args ds gs before hval0 hW hc hL hsh
  have hval : ∀ (j : Nat) t v, Tryz.f3.params[j]? = some t → args[j]? = some v → Value.okWide Tryz.prog W .any base t v := hval0
  have hW' := hW
  obtain ⟨p, q, hA0, hV, rfl, _, _⟩ := hW
  have hA : DataW.TrodAll enc Tryz.prog W 0 (fun _ => true) true Tryz.f3.params.toList args.toList ds p := hA0
  rw [Tryz.params3] at hA hval
  obtain ⟨v0, v1, d0, d1, p0, p1, rfl, rfl, rfl, h0, h1⟩ := trodAll_two hA
  obtain ⟨rfl, rfl⟩ := trodVars_none hV
  obtain ⟨s0, rfl, rfl, rfl, hs0⟩ := open_string Tryz.underlying9 (hval 0 9 v0 rfl rfl) h0
  obtain ⟨x1, rfl, hx1⟩ := open_spec (hval 1 26 v1 rfl rfl) h1
  clear hA0 hval0
  refine (ssuits_any s0 x1 W hx1 (mx_shaped hsh) (tb_of_laid (fun w => MakeChecks.laidMetH_plain _ _ w (by kernel_rfl)) hL)).mono fun e W' ⟨he, hw⟩ => ?_
  subst he
  refine ⟨_, rfl, post_of_below hW' rfl (fun _ _ _ => ?_) rfl rfl hw ?_⟩
  · have hrt : Tryz.f3.resultTypes = #[4] := by kernel_rfl
    rw [hrt]
    exact trodAll_mk1 ⟨1, by simp [DataW.trod, Value.cells, Tryz.underlying4]⟩
  · rw [Tryz.params3]
    intro t ht
    have hm : t ∈ [9, 26] := by simpa using ht
    have hall : ([9, 26].all fun u => Tryz.prog.readableRec u && decide (u < Tryz.prog.types.size)) = true := by kernel_rfl
    have := List.all_eq_true.1 hall t hm
    rw [Bool.and_eq_true] at this
    exact ⟨this.1, of_decide_eq_true this.2⟩
theorem specSuits_row : Rows.SpecSuitsSaid :=
  OpenClaim.holds_of_wide 3 Tryz.f3 rfl rfl rfl rfl rfl rfl rfl ⟨rfl, rfl, rfl, rfl, rfl⟩ rfl rfl rfl rfl rfl (by kernel_rfl) Tryz.func3 (by kernel_rfl)
    (of_decide_eq_true (by kernel_rfl)) (by unfold Func.isWrapper; first | (rw [if_pos (by decide +kernel)]; kernel_rfl) | (rw [if_neg (by decide +kernel)]; exact ⟨rfl, rfl⟩))
    (fun os started H enc _ => specSuits_lifted os started H enc)
theorem specSuits_holds : Rows.SpecSuitsCardSaid :=
  Claim7.holds_tied_plain_at .later [] [.data, .data, .data, .data, .pinned] true (true, "a8c09d38ae34f031165ba41639bffd1201e1848b2ee5c077e12c68de6cfd4722") false specSuits_row (fun _ h => by cases h) (by kernel_rfl) (fun _ h => by cases h) specSuits_row_tie rfl ⟨rfl, rfl⟩ (by kernel_rfl) rfl
    (fun f fn hf hfn => by
      obtain rfl : f = 3 := Option.some.inj ((show Tryz.prog.funcNamed "corvee/corveelaw08.SpecSuits" = some 3 by kernel_rfl).symm.trans hf) |>.symm
      obtain rfl : fn = Tryz.f3 := (Option.some.inj (Tryz.func3.symm.trans hfn)).symm
      exact ⟨by kernel_rfl, fun j t ht => by
        rw [Tryz.params3] at ht
        have hm : t ∈ [9, 26] := by simpa using Array.mem_of_getElem? ht
        have hall : ([9, 26].all fun u => !Tryz.prog.wantsStandIn u) = true := by kernel_rfl
        exact (show Tryz.prog.wantsStandIn t = false by simpa using List.all_eq_true.1 hall t hm)⟩)
    (by kernel_rfl)
end Go.Proofs.YteoihdkaoipocaaGreatDoor
