/- Whether any event may be and its bytes are the ones of the document: for every input the law returns true, and each argument reads behind the call as it read before. The listed variables are laid and tied. No further condition. -/
import Derived.Test.YteoihdkaoipocaaGreatDoorQa
import Derived.Test.YteoihdkaoipocaaGreatDoorRows
import Derived.Test.YteoihdkaoipocaaGreatDoorTie
import Derived.Test.YteoihdkaoipocaaGreatDoorCards
import Derived.ProofKit
import Derived.OpenShut
import Derived.LaidMore
import Derived.Lay
import Derived.SevenTiedAt
import Derived.Stop.Joined
import Derived.Shelf.Vars
import Derived.Stop.LaidErr
import Derived.Lib.LaidTab
import Derived.Test.YteoihdkaoipocaaGreatDoorQd
import Derived.Deep.Slices
import Derived.Lib.SmallJoins
import Derived.Test.YteoihdkaoipocaaGreatDoorQb
import Derived.Test.YteoihdkaoipocaaGreatDoorQg
import Derived.Test.YteoihdkaoipocaaGreatDoorQe
import Derived.Test.YteoihdkaoipocaaGreatDoorQf
import Derived.Deep.RegionHeld
/- What every row of this seat uses: the world's shape beside the laid variables; the variable MaxLen holds a number. -/
namespace Go.Proofs.YteoihdkaoipocaaGreatDoor
open Go.ChangeShapes Go.WideShapes Go.ChangeAt Go.RowKit

theorem own : ownKnob Tryz.prog.godebug = none := by kernel_rfl
theorem mx_shaped {W : World} (h : W.ShapedOpen Tryz.prog) : Mx W :=
  cell_of_shapedOpen_int (g := 0) (t := 3) (zero := #[.int .i64 0]) h (of_decide_eq_true (by kernel_rfl)) (by kernel_rfl) rfl (by kernel_rfl) (by kernel_rfl) Tryz.underlying3
variable {H : Type} {enc : TypeId × Value → H}
theorem returns_laid {a : Assume} {C : Checked} {os : Os} {f : FuncId} {fn : Func} {s : ChangeSpec} {conds : List PathCond} {apart fresh handsOn again : Bool} {X : World → Array Value → Prop}
    (hX : ∀ (w w' : World) (args : Array Value), w.heap = w'.heap → X w args → X w' args)
    (own : ownKnob C.prog.godebug = none) (started : os.Started) (noInit : C.prog.inits.idxOf? f = none) (hfn : C.prog.funcs[f]? = some fn)
    (witness : ∃ (w : World) (tape : Tape) (i : Input), w.os = os ∧ (w.forCall tape i).Shaped C.prog ∧ i.vars = [] ∧ Input.okWide C.prog (w.forCall tape i) .any w.heap.size f i ∧
      ((s.pre enc C.prog fn conds apart (w.forCall tape i).memory i.args ∧ X (w.forCall tape i).memory i.args) ∧ sizedMet enc C.prog fn (OpenSpec.ofChange s) apart (w.forCall tape i).memory i.args) ∧ a.holds C.prog (lone (Frame.enter C.prog f i.args .normal) [] (w.forCall tape i)))
    (contract : ∀ (W : World) (base : Nat) (args : Array Value) (ds gs : List (DataW H)) (before : List MemPlace),
      (∀ (j : Nat) t v, fn.params[j]? = some t → args[j]? = some v → Value.okWide C.prog W .any base t v) →
      DataW.Whole enc C.prog fn.params.toList s.vars apart W args.toList ds gs before →
      (DataW.weightsEach C.prog (fn.params.toList ++ s.plain.varTypes C.prog) (ds ++ gs)).all (· ≤ reachBytes) = true → X W args → W.ShapedOpen C.prog →
      Calls C.prog f args W fun e W' => ∃ v, e = .returned v ∧ s.post enc C.prog fn apart fresh handsOn again W args v W') :
    ReturnsInHanded a C os f .any (fun w args => (s.pre enc C.prog fn conds apart w args ∧ X w args) ∧ sizedMet enc C.prog fn (OpenSpec.ofChange s) apart w args) (s.post enc C.prog fn apart fresh handsOn again) := by
  refine returnsInHanded_of_calls own started noInit witness ?_
  intro w tape i _ hsh _ hok hpre hholds
  obtain ⟨_, _, _, fn', hfn', _, _, _, _, hval⟩ := hok
  have e : fn' = fn := Option.some.inj (hfn'.symm.trans hfn)
  subst e
  obtain ⟨⟨⟨ds, gs, before, hw, hc⟩, hx⟩, hz⟩ := hpre
  have hw' := DataW.Whole.of_heap (w' := w.forCall tape i) (by rfl) hw
  refine (contract (w.forCall tape i) w.heap.size i.args ds gs before hval hw' (hz.weights hw) (hX _ _ _ (by rfl) hx) hsh).mono fun e W' ⟨v, he, hp⟩ => ?_
  subst he
  exact ChangeSpec.post_blind hp
theorem laidOut : laidOutB Tryz.prog = true := by kernel_rfl
theorem trodAll_below {W W' : World} (hb : Below W.heap.size W W') : ∀ (ts : List TypeId) (vs : List Value) (ds : List (DataW H)) (ps : List MemPlace),
    DataW.TrodAll enc Tryz.prog W 0 (fun _ => true) true ts vs ds ps → (∀ x ∈ ps, x.block < W.heap.size) → (∀ t ∈ ts, Tryz.prog.readableRec t = true ∧ t < Tryz.prog.types.size) →
    DataW.TrodAll enc Tryz.prog W' 0 (fun b => decide (b < W.heap.size)) true ts vs ds ps
  | [], [], [], _, h, _, _ => h
  | [], _ :: _, _, _, h, _, _ => h.elim
  | [], [], _ :: _, _, h, _, _ => h.elim
  | _ :: _, [], _, _, h, _, _ => h.elim
  | _ :: _, _ :: _, [], _, h, _, _ => h.elim
  | t :: ts, v :: vs, d :: ds, ps, h, hlt, hr => by
    obtain ⟨p, q, h1, h2, rfl⟩ := h
    obtain ⟨r1, r2⟩ := hr t (by simp)
    exact ⟨p, q, Below.trod laidOut r1 r2 h1 hb (fun x hx => hlt x (by simp [hx])), trodAll_below hb ts vs ds q h2 (fun x hx => hlt x (by simp [hx])) (fun u hu => hr u (by simp [hu])), rfl⟩

theorem post_of_below {f : Func} {s : ChangeSpec} {apart fresh handsOn : Bool} {W W' : World} {args : Array Value} {v : Value} {ds gs : List (DataW H)} {before : List MemPlace}
    (hW : DataW.Whole enc Tryz.prog f.params.toList s.vars apart W args.toList ds gs before) (hs : s.vars = []) 
    (hres : ∀ (b : Nat) (sp : Nat → Bool) (hd : Bool), DataW.TrodAll enc Tryz.prog W' b sp hd f.resultTypes.toList (v.resultList f.resultTypes.size) (s.fn H (ds ++ gs)).results [])
    (hargs : (s.fn H (ds ++ gs)).args = ds) (hv : (s.fn H (ds ++ gs)).vars = []) (hb : Below W.heap.size W W')
    (hr : ∀ t ∈ f.params.toList, Tryz.prog.readableRec t = true ∧ t < Tryz.prog.types.size) :
    s.post enc Tryz.prog f apart fresh handsOn false W args v W' := by
  have hlt := hW.lt
  have hW' := hW
  obtain ⟨p, q, hA, hV, rfl, hfz, hnd⟩ := hW
  rw [hs] at hV
  obtain ⟨rfl, rfl⟩ := trodVars_none hV
  refine ⟨ds, [], p ++ [], [], p, [], hW', hres _ _ _, ?_, ?_, hb.frame _, fun h => by simp at h⟩
  · rw [hargs]
    exact trodAll_below hb _ _ _ _ hA (fun x hx => by simpa using hlt x (by simp [hx])) hr
  · rw [hv, hs]
    rfl
end Go.Proofs.YteoihdkaoipocaaGreatDoor

/- From a row's condition to the library's table of powers of ten. -/
namespace Go.Proofs.YteoihdkaoipocaaGreatDoor
open Go.RowKit

theorem pow_eq : (Rows.laid_internal_strconv_uint64pow10 : DataW Unit) = Lib.tabData .u64 Lib.pow10Tab := by kernel_rfl
theorem tb_of_laid {W : World} {a b : String × DataW Unit} {r : List (String × DataW Unit)} (hp : ∀ w, laidMetH Tryz.prog (a :: b :: ("internal/strconv.uint64pow10", Rows.laid_internal_strconv_uint64pow10) :: r) w = laidMet Tryz.prog (a :: b :: ("internal/strconv.uint64pow10", Rows.laid_internal_strconv_uint64pow10) :: r) w)
    (h : laidMetH Tryz.prog (a :: b :: ("internal/strconv.uint64pow10", Rows.laid_internal_strconv_uint64pow10) :: r) W) : Tb W := by
  rw [hp] at h
  have h2 := h.tail.tail
  rw [pow_eq] at h2
  exact Lib.tabBelow_of_tabIs (Lib.tabIs_of_head (g := 1) (t := 185) (e := 129) (n := 20) (by kernel_rfl) (by kernel_rfl) (by kernel_rfl) (by kernel_rfl) (by kernel_rfl) (by kernel_rfl) h2)
end Go.Proofs.YteoihdkaoipocaaGreatDoor

/- What an argument that is a row of nodes reads as, opened. Plain theorems: no condition. -/
namespace Go.Proofs.YteoihdkaoipocaaGreatDoor
open Go.ChangeShapes Go.WideShapes Go.ChangeAt Go.RowKit

theorem cel3 : Tryz.prog.cellsOf 3 = 1 := by kernel_rfl
theorem cel9 : Tryz.prog.cellsOf 9 = 1 := by kernel_rfl
theorem cel25 : Tryz.prog.cellsOf 23 = 4 := by kernel_rfl
theorem list4o {α : Type} {l : List α} (h : l.length = 4) : ∃ a b c d, l = [a, b, c, d] := by
  match l, h with
  | [a, b, c, d], _ => exact ⟨a, b, c, d, rfl⟩
theorem choose_belowo {α : Type} {n : Nat} {p : Nat → α → Prop} (z : α) (h : ∀ i, i < n → ∃ x, p i x) : ∃ f : Nat → α, ∀ i, i < n → p i (f i) :=
  ⟨fun i => if hi : i < n then (h i hi).choose else z, fun i hi => by simp only [hi, dif_pos]; exact (h i hi).choose_spec⟩
theorem add_plain_o (b off k : Nat) : (⟨b, off, none⟩ : Addr).add k = ⟨b, off + k, none⟩ := by unfold Addr.add; cases k <;> rfl

structure RowsO {α : Type} (cells : α → Array Value) (sz : Nat) (ok : World → α → Prop) (w : World) (so : Option Addr) (n : Nat) (xs : List α) : Prop where
  len : xs.length = n
  max : n ≤ 9223372036854775807
  cell : ∀ i x, xs[i]? = some x → ∃ b off, so = some ⟨b, off, none⟩ ∧ b < w.heap.size ∧ (∀ j, j < sz → w.cell? ⟨b, off + i * sz + j, none⟩ = (cells x)[j]?) ∧ ok w x
/-- a node of an argument -/
structure NdA (w : World) (x : Nde) : Prop where
  ok : x.ok w
  name : x.name.size ≤ maxLen
  parts : ∀ p, p ∈ x.parts → p.size ≤ maxLen
abbrev NdsAt (w : World) (so : Option Addr) (n : Nat) (xs : List Nde) : Prop := RowsO Nde.cells 6 NdA w so n xs
theorem NdsAt.low {w w' : World} {so : Option Addr} {n : Nat} {xs : List Nde} (h : NdsAt w so n xs) (hb : Below w.heap.size w w') : NdsAt w' so n xs :=
  ⟨h.len, h.max, fun i x hx => by
    obtain ⟨b, off, e, hlt, hc, ho⟩ := h.cell i x hx
    exact ⟨b, off, e, Nat.lt_of_lt_of_le hlt hb.size, fun j hj => (below_cell hb hlt).trans (hc j hj), ho.ok.low hb, ho.name, ho.parts⟩⟩

section
variable {H : Type} {enc : TypeId × Value → H} {w : World} {held : Bool} {fuel : Nat} {cs : List Value} {x : DataW H × List MemPlace}
theorem rowsO_of_trod {α : Type} (z : α) (cells : α → Array Value) (sz : Nat) (ok : World → α → Prop) {T E : TypeId} (hU : Tryz.prog.underlying T = some (.slice E)) (hc : Tryz.prog.cellsOf E = sz) (h0 : 0 < sz) (hsz : ∀ a, (cells a).size = sz)
    (hone : ∀ (fuel : Nat) (cs : List Value) (x : DataW H × List MemPlace), DataW.trod enc Tryz.prog w 0 (fun _ => true) held fuel E cs = some x → ∃ a, cs = (cells a).toList ∧ ok w a)
    {c : Value} (h : DataW.trod enc Tryz.prog w 0 (fun _ => true) held fuel T [c] = some x) : ∃ ao n cp xs, c = .slice ao n cp ∧ RowsO cells sz ok w ao n xs ∧ n ≤ cp := by
  rcases Go.Deep.open_slice hU h with ⟨hcs, _⟩ | ⟨a, len, cap, m, n, D, Pl, hcs, _, hl, hm, hmm, _, hi⟩
  · simp at hcs
    exact ⟨none, 0, 0, [], hcs, ⟨rfl, by omega, fun i x hx => by simp at hx⟩, Nat.le_refl _⟩
  · simp at hcs
    have mx : maxLen = 9223372036854775807 := by kernel_rfl
    have hmc : m = cap := by simpa using hmm
    have hc : ∀ i, i < len → ∃ x : α, ok w x ∧ ∀ j, j < sz → w.cell? (a.add (i * sz + j)) = (cells x)[j]? := fun i hil => by
      obtain ⟨cs', hc', ht⟩ := hi i (by omega)
      obtain ⟨x, rfl, ok⟩ := hone _ _ _ ht
      obtain ⟨_, _, hat⟩ := World.cells?_some hc'
      rw [hc] at hat
      exact ⟨x, ok, fun j hj => by rw [← Go.Deep.add_add, hat j hj]; simp⟩
    obtain ⟨f, hf2⟩ := choose_belowo z hc
    refine ⟨some a, len, cap, (List.range len).map f, hcs, ⟨by simp, by rw [mx] at hm; omega, fun i x hx => ?_⟩, hl⟩
    have hil : i < len := by
      have := (List.getElem?_eq_some_iff.1 hx).1
      simpa using this
    have hxe : x = f i := by
      rw [List.getElem?_map, List.getElem?_range hil] at hx
      simpa using hx.symm
    subst hxe
    have hz : ∀ i, i < len → (cells (f i))[0]? = some ((cells (f i))[0]'(by rw [hsz]; exact h0)) := fun i _ => by
      rw [Array.getElem?_eq_getElem]
    have h00 := (hf2 0 (by omega)).2 0 h0
    rw [hz 0 (by omega)] at h00
    obtain ⟨b, off, spot⟩ := a
    have hsp : spot = none := by simpa [Addr.add] using World.cell?_spot h00
    subst hsp
    have e : ∀ j, j < sz → w.cell? ⟨b, off + i * sz + j, none⟩ = (cells (f i))[j]? := fun j hj => by
      rw [← (hf2 i hil).2 j hj, add_plain_o, Nat.add_assoc]
    have e0 := e 0 h0
    rw [hz i hil] at e0
    exact ⟨b, off, rfl, World.block_lt_of_cell? w _ e0, e, (hf2 i hil).1⟩
theorem vecO_of_trod (h : DataW.trod enc Tryz.prog w 0 (fun _ => true) held fuel 23 cs = some x) : ∃ v : V4, cs = v.cells.toList := by
  obtain ⟨xs, m, _, _, hl, hn, hi⟩ := DataW.trod_array Tryz.underlying23 h
  rw [cel25] at hl
  obtain ⟨c0, c1, c2, c3, rfl⟩ := list4o hl
  have one : ∀ i, i < 4 → ∀ c : Value, (([c0, c1, c2, c3].drop (i * Tryz.prog.cellsOf 3)).take (Tryz.prog.cellsOf 3)) = [c] → ∃ n, c = .int .i64 n := fun i h4 c hc => by
    have h1 := hi i h4
    rw [hc, List.getElem?_eq_getElem (by omega)] at h1
    obtain ⟨n, e, _⟩ := DataW.trod_int Tryz.underlying3 h1
    exact ⟨n, by simpa using e⟩
  obtain ⟨n0, rfl⟩ := one 0 (by omega) c0 (by simp [cel3])
  obtain ⟨n1, rfl⟩ := one 1 (by omega) c1 (by simp [cel3])
  obtain ⟨n2, rfl⟩ := one 2 (by omega) c2 (by simp [cel3])
  obtain ⟨n3, rfl⟩ := one 3 (by omega) c3 (by simp [cel3])
  exact ⟨⟨n0, n1, n2, n3⟩, rfl⟩
end
section
variable {H : Type} {enc : TypeId × Value → H} {w : World} {held : Bool} {b0 : Nat} {r : Reach} {v : Value} {d : DataW H} {p : List MemPlace}
end
end Go.Proofs.YteoihdkaoipocaaGreatDoor

/- What an argument that is a spec reads as, opened. Plain theorems: no condition. -/
namespace Go.Proofs.YteoihdkaoipocaaGreatDoor
open Go.ChangeShapes Go.WideShapes Go.ChangeAt Go.RowKit

theorem wf_bd {n : Int} (h : (Lit.int .i64 n).wf = true) : -9223372036854775808 ≤ n ∧ n ≤ 9223372036854775807 := by
  simp [Lit.wf, IntKind.min, IntKind.max, IntKind.signed, IntKind.bits] at h
  omega
theorem cel4 : Tryz.prog.cellsOf 4 = 1 := by kernel_rfl
theorem cel26 : Tryz.prog.cellsOf 24 = 1 := by kernel_rfl
theorem cel28 : Tryz.prog.cellsOf 26 = 13 := by kernel_rfl
theorem list13o {α : Type} {l : List α} (h : l.length = 13) : ∃ a b c d e f g i j k m n o, l = [a, b, c, d, e, f, g, i, j, k, m, n, o] := by
  match l, h with
  | [a, b, c, d, e, f, g, i, j, k, m, n, o], _ => exact ⟨a, b, c, d, e, f, g, i, j, k, m, n, o, rfl⟩
section
variable {H : Type} {enc : TypeId × Value → H} {w : World} {held : Bool} {fuel : Nat} {cs : List Value} {x : DataW H × List MemPlace}
theorem intsO_of_trod {c : Value} (h : DataW.trod enc Tryz.prog w 0 (fun _ => true) held fuel 24 [c] = some x) : ∃ ao n cp xs, c = .slice ao n cp ∧ IntsAt w ao n xs ∧ n ≤ cp := by
  obtain ⟨ao, n, cp, xs, e, hr, hn⟩ := rowsO_of_trod (0 : Int) (fun s => #[.int .i64 s]) 1 (fun _ _ => True) Tryz.underlying24 cel3 (by decide) (fun _ => rfl) (fun fuel cs x h => by
    obtain ⟨s, e, _⟩ := DataW.trod_int Tryz.underlying3 h
    exact ⟨s, e, trivial⟩) h
  refine ⟨ao, n, cp, xs, e, ⟨hr.len, hr.max, fun i x hx => ?_⟩, hn⟩
  obtain ⟨b, off, e, hlt, hc, _⟩ := hr.cell i x hx
  have := hc 0 (by omega)
  rw [Nat.mul_one, Nat.add_zero] at this
  exact ⟨b, off, e, hlt, this⟩
set_option maxRecDepth 100000 in
theorem spec_of_trod (h : DataW.trod enc Tryz.prog w 0 (fun _ => true) held fuel 26 cs = some x) : ∃ a : Spv, cs = a.cells.toList ∧ a.ok w := by
  obtain ⟨xs, n, _, rfl, hl, hlen, hf⟩ := DataW.trod_struct Tryz.underlying26 h
  rw [cel28] at hl
  obtain ⟨c0, c1, c2, c3, c4, c5, c6, c7, c8, c9, c10, c11, c12, rfl⟩ := list13o hl
  match xs, hlen with
  | [y0, y1, y2, y3, y4, y5, y6, y7, y8, y9], _ =>
    have h0 := hf 0 _ rfl; have h1 := hf 1 _ rfl; have h2 := hf 2 _ rfl; have h3 := hf 3 _ rfl; have h4 := hf 4 _ rfl; have h5 := hf 5 _ rfl; have h6 := hf 6 _ rfl; have h7 := hf 7 _ rfl; have h8 := hf 8 _ rfl; have h9 := hf 9 _ rfl
    simp [cel9, cel25, cel3, cel4, cel26] at h0 h1 h2 h3 h4 h5 h6 h7 h8 h9
    obtain ⟨s0, e0, _, hs0⟩ := DataW.trod_string Tryz.underlying9 h0
    obtain ⟨s1, e1, _, hs1⟩ := DataW.trod_string Tryz.underlying9 h1
    obtain ⟨n2, e2, _⟩ := DataW.trod_int Tryz.underlying3 h2
    obtain ⟨v, ev⟩ := vecO_of_trod h3
    obtain ⟨n4, e4, _⟩ := DataW.trod_int Tryz.underlying3 h4
    obtain ⟨n5, e5, _⟩ := DataW.trod_int Tryz.underlying3 h5
    obtain ⟨n6, e6, _⟩ := DataW.trod_int Tryz.underlying3 h6
    obtain ⟨n7, e7, _⟩ := DataW.trod_int Tryz.underlying3 h7
    obtain ⟨b8, e8, _⟩ := DataW.trod_bool Tryz.underlying4 h8
    obtain ⟨so, m, cp, zs, rfl, hz, hmc⟩ := intsO_of_trod h9
    simp at e0 e1 e2 ev e4 e5 e6 e7 e8
    obtain ⟨rfl, rfl, rfl, rfl⟩ := ev
    subst e0 e1 e2 e4 e5 e6 e7 e8
    exact ⟨⟨⟨s0, s1, n2, v, n4, n5, n6, n7, b8, zs⟩, so, m, cp⟩, rfl, ⟨hz, hmc, hs0, hs1⟩⟩
end
section
variable {H : Type} {enc : TypeId × Value → H} {w : World} {held : Bool} {b0 : Nat} {r : Reach} {v : Value} {d : DataW H} {p : List MemPlace}
set_option maxRecDepth 100000 in
theorem open_spec (hv : Value.okWide Tryz.prog w r b0 26 v) (h : DataW.Trod enc Tryz.prog w 0 (fun _ => true) held 26 v d p) : ∃ a : Spv, v = a.val ∧ a.ok w := by
  obtain ⟨fuel, hf⟩ := h
  obtain ⟨cs, rfl⟩ : ∃ cs, v = .agg cs := by
    simp only [Value.okWide, Tryz.underlying26] at hv
    cases v <;> simp_all
  obtain ⟨a, e, hok⟩ := spec_of_trod hf
  refine ⟨a, ?_, hok⟩
  have e2 : cs = a.cells := Array.toList_inj.1 e
  rw [e2]
end
end Go.Proofs.YteoihdkaoipocaaGreatDoor

/- What arguments that are bytes, an event, a row of events read as, opened. Plain theorems: no condition. -/
namespace Go.Proofs.YteoihdkaoipocaaGreatDoor
open Go.ChangeShapes Go.WideShapes Go.ChangeAt Go.RowKit

theorem cel5 : Tryz.prog.cellsOf 5 = 1 := by kernel_rfl
theorem cel59 : Tryz.prog.cellsOf 41 = 1 := by kernel_rfl
theorem cel70 : Tryz.prog.cellsOf 43 = 10 := by kernel_rfl
theorem list10o {α : Type} {l : List α} (h : l.length = 10) : ∃ a b c d e f g i j k, l = [a, b, c, d, e, f, g, i, j, k] := by
  match l, h with
  | [a, b, c, d, e, f, g, i, j, k], _ => exact ⟨a, b, c, d, e, f, g, i, j, k, rfl⟩
theorem wf_u8 {n : Int} (h : (Lit.int .u8 n).wf = true) : 0 ≤ n ∧ n ≤ 255 := by
  simp [Lit.wf, IntKind.min, IntKind.max, IntKind.signed, IntKind.bits] at h
  omega
abbrev EvsAt (w : World) (so : Option Addr) (n : Nat) (xs : List Evv) : Prop := RowsO Evv.cells 10 Evv.ok w so n xs
theorem EvsAt.low {w w' : World} {so : Option Addr} {n : Nat} {xs : List Evv} (h : EvsAt w so n xs) (hb : Below w.heap.size w w') : EvsAt w' so n xs :=
  ⟨h.len, h.max, fun i x hx => by
    obtain ⟨b, off, e, hlt, hc, ho⟩ := h.cell i x hx
    exact ⟨b, off, e, Nat.lt_of_lt_of_le hlt hb.size, fun j hj => (below_cell hb hlt).trans (hc j hj), ho.low hb⟩⟩
section
variable {H : Type} {enc : TypeId × Value → H} {w : World} {held : Bool} {fuel : Nat} {cs : List Value} {x : DataW H × List MemPlace}
theorem nil_cap {T E : TypeId} (hU : Tryz.prog.underlying T = some (.slice E)) {so : Option Addr} {n c : Nat} (h : DataW.trod enc Tryz.prog w 0 (fun _ => true) held fuel T [.slice so n c] = some x) : so = none → n = 0 ∧ c = 0 := by
  intro e
  subst e
  rcases Go.Deep.open_slice hU h with ⟨hcs, _⟩ | ⟨a, len, cap, m, n', D, Pl, hcs, _⟩
  · simp at hcs
    exact hcs
  · simp at hcs
theorem bytesO_of_trod {c : Value} (h : DataW.trod enc Tryz.prog w 0 (fun _ => true) held fuel 40 [c] = some x) : ∃ ao n cp l, c = .slice ao n cp ∧ BytsAt w ao n l ∧ n ≤ cp ∧ (ao = none → n = 0 ∧ cp = 0) := by
  obtain ⟨ao, n, cp, xs, e, hr, hn⟩ := rowsO_of_trod (0 : UInt8) (fun s => #[.int .u8 s.toNat]) 1 (fun _ _ => True) Tryz.underlying40 cel5 (by decide) (fun _ => rfl) (fun fuel cs x h => by
    obtain ⟨s, e, _, hw⟩ := DataW.trod_int Tryz.underlying5 h
    have hb := wf_u8 hw
    refine ⟨UInt8.ofNat s.toNat, ?_, trivial⟩
    rw [e, UInt8.toNat_ofNat']
    have : ((s.toNat % 2 ^ 8 : Nat) : Int) = s := by
      have h8 : (2 : Nat) ^ 8 = 256 := by decide
      rw [h8]
      omega
    rw [this]) h
  rw [e] at h
  refine ⟨ao, n, cp, xs, e, ⟨hr.len, hr.max, fun i x hx => ?_⟩, hn, nil_cap Tryz.underlying40 h⟩
  obtain ⟨b, off, e, hlt, hc, _⟩ := hr.cell i x hx
  have := hc 0 (by omega)
  rw [Nat.mul_one, Nat.add_zero] at this
  exact ⟨b, off, e, hlt, this⟩
theorem spsO_of_trod {c : Value} (h : DataW.trod enc Tryz.prog w 0 (fun _ => true) held fuel 41 [c] = some x) : ∃ ao n cp xs, c = .slice ao n cp ∧ SpsAt w ao n xs ∧ n ≤ cp := by
  obtain ⟨ao, n, cp, xs, e, hr, hn⟩ := rowsO_of_trod Spv.zero Spv.cells 13 (fun w s => s.ok w) Tryz.underlying41 cel28 (by decide) (fun _ => rfl) (fun fuel cs x h => spec_of_trod h) h
  exact ⟨ao, n, cp, xs, e, ⟨hr.len, hr.max, hr.cell⟩, hn⟩
set_option maxRecDepth 100000 in
theorem event_of_trod (h : DataW.trod enc Tryz.prog w 0 (fun _ => true) held fuel 43 cs = some x) : ∃ a : Evv, cs = a.cells.toList ∧ a.ok w := by
  obtain ⟨xs, n, _, rfl, hl, hlen, hf⟩ := DataW.trod_struct Tryz.underlying43 h
  rw [cel70] at hl
  obtain ⟨c0, c1, c2, c3, c4, c5, c6, c7, c8, c9, rfl⟩ := list10o hl
  match xs, hlen with
  | [y0, y1, y2, y3, y4, y5, y6, y7, y8, y9], _ =>
    have h0 := hf 0 _ rfl; have h1 := hf 1 _ rfl; have h2 := hf 2 _ rfl; have h3 := hf 3 _ rfl; have h4 := hf 4 _ rfl; have h5 := hf 5 _ rfl; have h6 := hf 6 _ rfl; have h7 := hf 7 _ rfl; have h8 := hf 8 _ rfl; have h9 := hf 9 _ rfl
    simp [cel3, cel59] at h0 h1 h2 h3 h4 h5 h6 h7 h8 h9
    obtain ⟨n0, e0, _, w0⟩ := DataW.trod_int Tryz.underlying3 h0
    obtain ⟨n1, e1, _, w1⟩ := DataW.trod_int Tryz.underlying3 h1
    obtain ⟨n2, e2, _, w2⟩ := DataW.trod_int Tryz.underlying3 h2
    obtain ⟨n3, e3, _, w3⟩ := DataW.trod_int Tryz.underlying3 h3
    obtain ⟨n4, e4, _, w4⟩ := DataW.trod_int Tryz.underlying3 h4
    obtain ⟨n5, e5, _, w5⟩ := DataW.trod_int Tryz.underlying3 h5
    obtain ⟨n6, e6, _, w6⟩ := DataW.trod_int Tryz.underlying3 h6
    obtain ⟨n7, e7, _, w7⟩ := DataW.trod_int Tryz.underlying3 h7
    obtain ⟨n8, e8, _, w8⟩ := DataW.trod_int Tryz.underlying3 h8
    obtain ⟨so, m, cp, zs, rfl, hz, hmc⟩ := spsO_of_trod h9
    simp at e0 e1 e2 e3 e4 e5 e6 e7 e8
    subst e0 e1 e2 e3 e4 e5 e6 e7 e8
    refine ⟨⟨⟨n0, n1, n2, n3, n4, n5, n6, n7, n8⟩, so, m, cp, zs⟩, rfl, ⟨hz, hmc, fun i => ?_⟩⟩
    have b0 := wf_bd w0; have b1 := wf_bd w1; have b2 := wf_bd w2; have b3 := wf_bd w3; have b4 := wf_bd w4; have b5 := wf_bd w5; have b6 := wf_bd w6; have b7 := wf_bd w7; have b8 := wf_bd w8
    unfold Evn.get
    split <;> first | assumption | omega
end
section
variable {H : Type} {enc : TypeId × Value → H} {w : World} {held : Bool} {b0 : Nat} {r : Reach} {v : Value} {d : DataW H} {p : List MemPlace}
set_option maxRecDepth 100000 in
theorem open_bytes (hv : Value.okWide Tryz.prog w r b0 40 v) (h : DataW.Trod enc Tryz.prog w 0 (fun _ => true) held 40 v d p) : ∃ ao n cp l, v = .slice ao n cp ∧ BytsAt w ao n l ∧ n ≤ cp ∧ (ao = none → n = 0 ∧ cp = 0) := by
  obtain ⟨fuel, hf⟩ := h
  have hvc : v.cells.toList = [v] := by
    simp only [Value.okWide, Tryz.underlying40, Cell.okWide] at hv
    cases v <;> simp_all [Value.cells, Cell.ok]
  rw [hvc] at hf
  exact bytesO_of_trod hf
set_option maxRecDepth 100000 in
theorem open_event (hv : Value.okWide Tryz.prog w r b0 43 v) (h : DataW.Trod enc Tryz.prog w 0 (fun _ => true) held 43 v d p) : ∃ a : Evv, v = a.val ∧ a.ok w := by
  obtain ⟨fuel, hf⟩ := h
  obtain ⟨cs, rfl⟩ : ∃ cs, v = .agg cs := by
    simp only [Value.okWide, Tryz.underlying43] at hv
    cases v <;> simp_all
  obtain ⟨a, e, hok⟩ := event_of_trod hf
  refine ⟨a, ?_, hok⟩
  have e2 : cs = a.cells := Array.toList_inj.1 e
  rw [e2]
end
end Go.Proofs.YteoihdkaoipocaaGreatDoor

/- The document's bytes: Uint 86, Int 85, Text 49. Plain theorems: no condition. -/
namespace Go.Proofs.YteoihdkaoipocaaGreatDoor
open Go.RowKit Go.Maps

theorem toNat_small {m : Nat} (h : m < 256) : (UInt8.ofNat m).toNat = m := by rw [UInt8.toNat_ofNat']; omega
def RcdPost (l : List UInt8) (w : World) (e : Ending) (w' : World) : Prop :=
  ∃ v, e = .returned v ∧ OwnB w' w.heap.size v l ∧ Below w.heap.size w w'
theorem own_one (w : World) (x : UInt8) : OwnB (w.alloc (.cells #[.int .u8 x.toNat] 5 (0, 0))) w.heap.size (.slice (some ⟨w.heap.size, 0, none⟩) 1 1) [x] :=
  ⟨rfl, .inr ⟨w.heap.size, 1, #[.int .u8 x.toNat], rfl, Nat.le_refl _, blk_new _ _, Nat.le_refl _, by decide, rfl, rfl⟩⟩
theorem uintB_ne (n : Nat) : uintB n ≠ [] := fun e => by
  by_cases h : n < 128
  · rw [uintB_lt h] at e; cases e
  · rw [uintB_ge h] at e; cases e
/-- bytes of one's own that are some: where they lie -/
theorem OwnB.some {w : World} {B : Nat} {v : Value} {l : List UInt8} (h : OwnB w B v l) (hl : l ≠ []) : ∃ g c, v = .slice (some ⟨g, 0, none⟩) l.length c ∧ ∀ j u, (Lib.byteCells l)[j]? = some u → w.cell? ((⟨g, 0, none⟩ : Addr).add j) = some u := by
  obtain ⟨so, c, rfl, hb⟩ := h.form
  have h0 : 0 < (Lib.byteCells l).length := by rw [Lib.byteCells_length]; exact List.length_pos_iff.2 hl
  obtain ⟨ad, rfl, hc⟩ := byts_cells hb h0
  rcases h.row.2 with ⟨hv, _⟩ | ⟨g, cap, cur, hv, _⟩
  · cases hv
  · simp only [Value.slice.injEq, Option.some.injEq] at hv
    obtain ⟨rfl, _, rfl⟩ := hv
    exact ⟨g, _, rfl, hc⟩
set_option maxRecDepth 100000 in
set_option maxHeartbeats 1600000 in
theorem ru_any : ∀ (n : Nat) (w : World), n < 18446744073709551616 → Calls Tryz.prog 86 #[.int .u64 n] w (RcdPost (uintB n) w) := by
  intro n
  induction n using Nat.strongRecOn with
  | _ n ih =>
  intro w hn
  obtain ⟨i0, hi, hz0, hz1, hz2⟩ := info_parts info5b
  have mx : maxLen = 9223372036854775807 := by kernel_rfl
  by_cases h : n < 128
  · have h1 : (n : Int) < 128 := by omega
    have h0 : (0 : Int) ≤ (n : Int) := by omega
    have hO := own_one w (UInt8.ofNat n)
    rw [toNat_small (by omega)] at hO
    have he := uintB_lt h
    replace hi := Lib.hid hi; replace hz0 := Lib.hid hz0; replace hz1 := Lib.hid hz1; replace hz2 := Lib.hid hz2; replace ih := Lib.hid ih; replace hO := Lib.hid hO; replace he := Lib.hid he; replace mx := Lib.hid mx
    go_enter Tryz.func86, Tryz.ntmps86
    go_wp2
    go_ret
    exact ⟨_, rfl, by rw [he.out]; exact hO.out, (Below.refl _ _).alloc (Nat.le_refl _) _⟩
  · have h1 : ¬ (n : Int) < 128 := by omega
    have h0 : (0 : Int) ≤ (n : Int) := by omega
    have hO := own_one w (UInt8.ofNat (128 + n % 128))
    rw [toNat_small (by omega)] at hO
    have he := uintB_ge h
    have hten := uintB_ten hn
    have hwr : IntKind.u64.wrap (128 + (n : Int) % 128) = 128 + (n : Int) % 128 := by
      show (128 + (n : Int) % 128) % 18446744073709551616 = _
      omega
    have hrec := fun W => ih (n / 128) (by omega) W (by omega)
    replace hi := Lib.hid hi; replace hz0 := Lib.hid hz0; replace hz1 := Lib.hid hz1; replace hz2 := Lib.hid hz2; replace ih := Lib.hid ih; replace hO := Lib.hid hO; replace he := Lib.hid he; replace mx := Lib.hid mx; replace hrec := Lib.hid hrec; replace hten := Lib.hid hten
    go_enter Tryz.func86, Tryz.ntmps86
    go_wp2_with fail
    refine (hrec.out _).mono ?_
    rintro e w2 ⟨v2, rfl, hO2, hb2⟩
    have hlow : Below w.heap.size w w2 := ((Below.refl _ _).alloc (Nat.le_refl _) _).trans (hb2.mono (by simp))
    have hO1 := hO.out.low hb2
    obtain ⟨L, hL⟩ : ∃ L, L = (uintB (n / 128)).length := ⟨_, rfl⟩
    obtain ⟨g, c, rfl, hc2⟩ := hO2.some (uintB_ne _)
    rw [← hL]
    have hL10 : L ≤ 10 := by rw [hL]; exact uintB_ten (by omega)
    have hln : (Lib.byteCells (uintB (n / 128))).length = L * 1 := by rw [Lib.byteCells_length, ← hL, Nat.mul_one]
    have hone := Lib.byteCells_one (uintB (n / 128))
    have hbs := hlow.size
    have hrow := hO1.row
    replace hlow := Lib.hid hlow; replace hO1 := Lib.hid hO1; replace hL := Lib.hid hL; replace hc2 := Lib.hid hc2; replace hln := Lib.hid hln; replace hone := Lib.hid hone; replace hO2 := Lib.hid hO2; replace hb2 := Lib.hid hb2; replace hrow := Lib.hid hrow
    go_wp2_with (at_builtin; refine wpList_append_own _ rfl _ _ 40 rfl w.heap.size 5 i0 (.int .u8 0) 1 1 Tryz.underlying40 hi.out hz0.out hz1.out hz2.out rfl (by decide) _ _ _ rfl hrow.out ⟨g, 0, none⟩ L c (Lib.byteCells (uintB (n / 128))) rfl hln.out hc2.out hone.out ?c3 ?c4 ?c5 ?c6)
    case c3 => have := mx.out; show 1 + L ≤ maxLen; omega
    case c4 => show (1 + L) * 1 ≤ _; omega
    case c5 => exact hbs
    case c6 =>
      intro v' w3 hown' hgrow _
      have hlow3 : Below w.heap.size w w3 := hlow.out.grown hgrow hbs (fun k hk => (hrow.out.lt k hk).1)
      have hO3 : OwnB w3 w.heap.size v' (uintB n) := by
        refine ⟨?_⟩
        rw [he.out]
        have := hown'
        rw [hL.out] at this
        simpa [Lib.byteCells, Nat.add_comm] using this
      replace hown' := Lib.hid hown'
      replace hgrow := Lib.hid hgrow; replace hlow3 := Lib.hid hlow3; replace hO3 := Lib.hid hO3
      go_wp2
      go_ret
      exact ⟨v', rfl, hO3.out, hlow3.out⟩
set_option maxRecDepth 100000 in
set_option maxHeartbeats 1600000 in
theorem rint_put (x : Int) (w : World) (h1 : -9223372036854775808 ≤ x) (h2 : x ≤ 9223372036854775807) : Calls Tryz.prog 85 #[.int .i64 x] w (RcdPost (uintB (zz x)) w) := by
  have hz := zz_lt h1 h2
  have hru := fun W => ru_any (zz x) W hz
  by_cases h : x < 0
  · have e : ((zz x : Nat) : Int) = 2 * -(x + 1) + 1 := by
      unfold zz Lib.zigzag
      split <;> omega
    rw [e] at hru
    clear e
    replace hru := Lib.hid hru
    go_enter Tryz.func85, Tryz.ntmps85
    go_wp2_with fail
    refine (hru.out _).mono ?_
    rintro en w1 ⟨v, rfl, hO, hb⟩
    replace hO := Lib.hid hO; replace hb := Lib.hid hb
    go_wp2
    go_ret
    exact ⟨v, rfl, hO.out, hb.out⟩
  · have e : ((zz x : Nat) : Int) = 2 * x := by
      unfold zz Lib.zigzag
      split <;> omega
    rw [e] at hru
    clear e
    replace hru := Lib.hid hru
    go_enter Tryz.func85, Tryz.ntmps85
    go_wp2_with fail
    refine (hru.out _).mono ?_
    rintro en w1 ⟨v, rfl, hO, hb⟩
    replace hO := Lib.hid hO; replace hb := Lib.hid hb
    go_wp2
    go_ret
    exact ⟨v, rfl, hO.out, hb.out⟩
set_option maxRecDepth 100000 in
set_option maxHeartbeats 1600000 in
theorem rtext_put (s : ByteArray) (w : World) (hs : s.size ≤ 1099511627776) : Calls Tryz.prog 49 #[.string s] w (RcdPost (uintB s.size ++ s.data.toList) w) := by
  obtain ⟨i0, hi, hz0, hz1, hz2⟩ := info_parts info5b
  have hx : s.size < 18446744073709551616 := by omega
  have hk := ru_any s.size w hx
  have hten := uintB_ten hx
  have mx : maxLen = 9223372036854775807 := by kernel_rfl
  have htl : s.data.toList.length = s.size := toL_len s
  replace hk := Lib.hid hk; replace hi := Lib.hid hi; replace hz0 := Lib.hid hz0; replace hz1 := Lib.hid hz1; replace hz2 := Lib.hid hz2; replace mx := Lib.hid mx; replace htl := Lib.hid htl
  go_enter Tryz.func49, Tryz.ntmps49
  go_wp2_with fail
  refine hk.out.mono ?_
  rintro e w1 ⟨v, rfl, hO, hlow⟩
  have hown := hO.row
  have hbase := hlow.size
  have hgl : ∀ k, v.ownBlock = some k → w.heap.size ≤ k ∧ k < w1.heap.size := fun k hk => ⟨(hown.lt k hk).1, (hown.lt k hk).2⟩
  replace hO := Lib.hid hO; replace hlow := Lib.hid hlow; replace hown := Lib.hid hown; replace hgl := Lib.hid hgl; replace hten := Lib.hid hten
  go_wp2_with (at_builtin; refine Lib.wpList_append_own_string _ rfl _ _ 40 9 rfl w.heap.size 5 i0 Tryz.underlying40 Tryz.underlying9 hi.out hz0.out hz1.out hz2.out _ _ _ rfl hown.out s rfl ?c3 ?c4 hbase ?c6)
  case c3 => have := hten.out; have := mx.out; omega
  case c4 => have := hten.out; omega
  case c6 =>
    intro v' w2 hown' hgrow _
    have hlow2 : Below w.heap.size w w2 := hlow.out.grown hgrow hbase (fun k hk => (hgl.out k hk).1)
    have hO2 : OwnB w2 w.heap.size v' (uintB s.size ++ s.data.toList) := by
      refine ⟨?_⟩
      rw [List.length_append, htl.out, byteCells_app2 (uintB s.size)]
      exact hown'
    replace hown' := Lib.hid hown'
    replace hgrow := Lib.hid hgrow; replace hlow2 := Lib.hid hlow2; replace hO2 := Lib.hid hO2
    go_wp2
    go_ret
    exact ⟨v', rfl, hO2.out, hlow2.out⟩
/-- numbers, one behind the other -/
def intsB (l : List Int) : List UInt8 := l.flatMap fun x => uintB (zz x)
theorem intsB_step {l : List Int} {k : Nat} {x : Int} (h : l[k]? = some x) : intsB (l.take (k + 1)) = intsB (l.take k) ++ uintB (zz x) := by
  unfold intsB
  rw [take_step h, List.flatMap_append]
  simp
structure RisW (w : World) (l : List UInt8) (v : Value) (wr : World) : Prop where
  low : Below w.heap.size w wr
  own : OwnB wr w.heap.size v l
theorem zz_ten {x : Int} (h1 : -9223372036854775808 ≤ x) (h2 : x ≤ 9223372036854775807) : (uintB (zz x)).length ≤ 10 := uintB_ten (zz_lt h1 h2)
theorem intsB_len : ∀ {l : List Int}, (∀ x, x ∈ l → -9223372036854775808 ≤ x ∧ x ≤ 9223372036854775807) → (intsB l).length ≤ l.length * 10
  | [], _ => by simp [intsB]
  | x :: l, h => by
    have h1 := intsB_len (l := l) fun y hy => h y (List.mem_cons_of_mem _ hy)
    have h2 := h x (List.mem_cons_self ..)
    have h3 := zz_ten h2.1 h2.2
    unfold intsB at h1 ⊢
    rw [List.flatMap_cons, List.length_append, List.length_cons]
    omega
set_option maxRecDepth 100000 in
set_option maxHeartbeats 1600000 in
theorem rints_any (so : Option Addr) (n c : Nat) (l : List Int) (w : World) (hl : IntsAt w so n l) (hn : n ≤ 1000) (hr : ∀ x, x ∈ l → -9223372036854775808 ≤ x ∧ x ≤ 9223372036854775807) : Calls Tryz.prog 48 #[.slice so n c] w (RcdPost (intsB l) w) := by
  obtain ⟨i0, hi, hz0, hz1, hz2⟩ := info_parts info5b
  have mx : maxLen = 9223372036854775807 := by kernel_rfl
  have hlen := hl.len
  have h0 : RisW w (intsB (l.take 0)) (.slice none 0 0) w := ⟨Below.refl _ _, ⟨rfl, .inl ⟨rfl, rfl⟩⟩⟩
  replace hi := Lib.hid hi; replace hz0 := Lib.hid hz0; replace hz1 := Lib.hid hz1; replace hz2 := Lib.hid hz2; replace mx := Lib.hid mx; replace hl := Lib.hid hl; replace hr := Lib.hid hr; replace hlen := Lib.hid hlen; replace h0 := Lib.hid h0
  go_enter Tryz.func48, Tryz.ntmps48
  go_wp2
  go_loopw [3, 4] (fun bv iv wr => ∃ k : Nat, iv = .int .i64 k ∧ k ≤ n ∧ Hid (RisW w (intsB (l.take k)) bv wr)) (fun _ iv _ => n - (intOf iv).toNat)
  case atStart => exact ⟨0, rfl, Nat.zero_le _, h0.out⟩
  case round =>
    obtain ⟨k, rfl, hk, hR⟩ := hrel
    by_cases hkn : k < n
    · have hkn1 : (k : Int) < n := by omega
      have hk0 : (0 : Int) ≤ (k : Int) := by omega
      obtain ⟨x, hx⟩ : ∃ x, l[k]? = some x := ⟨_, List.getElem?_eq_getElem (by rw [hlen.out]; omega)⟩
      obtain ⟨b, off, rfl, hbl, hcell⟩ := (hl.out.low hR.out.low).cell k x hx
      have hxr := hr.out x (List.mem_of_getElem? hx)
      have hp := rint_put x wr hxr.1 hxr.2
      have hst := intsB_step hx
      obtain ⟨B, hB⟩ : ∃ B, B = intsB (l.take k) := ⟨_, rfl⟩
      have hBl : B.length ≤ 10000 := by
        rw [hB]
        refine Nat.le_trans (intsB_len fun y hy => hr.out y (List.mem_of_mem_take hy)) ?_
        rw [List.length_take]
        omega
      rw [← hB] at hR hst
      obtain ⟨N, hN⟩ : ∃ N, N = uintB (zz x) := ⟨_, rfl⟩
      have hNl : N.length ≤ 10 := by rw [hN]; exact zz_ten hxr.1 hxr.2
      have hNe : N ≠ [] := by rw [hN]; exact uintB_ne _
      rw [← hN] at hst hp
      replace hx := Lib.hid hx; replace hxr := Lib.hid hxr; replace hp := Lib.hid hp; replace hst := Lib.hid hst; replace hB := Lib.hid hB; replace hN := Lib.hid hN; replace hNe := Lib.hid hNe
      go_wp2_with fail
      refine hp.out.mono ?_
      rintro e w2 ⟨v2, rfl, hO2, hb2⟩
      have hlow : Below w.heap.size w w2 := hR.out.low.trans (hb2.mono hR.out.low.size)
      have hrow := (hR.out.own.low hb2).row
      obtain ⟨g, c2, rfl, hc2⟩ := hO2.some hNe.out
      have hln : (Lib.byteCells N).length = N.length * 1 := by rw [Lib.byteCells_length, Nat.mul_one]
      have hone := Lib.byteCells_one N
      have hbs := hlow.size
      obtain ⟨L, hL⟩ : ∃ L, L = N.length := ⟨_, rfl⟩
      rw [← hL] at hln hNl ⊢
      replace hlow := Lib.hid hlow; replace hrow := Lib.hid hrow; replace hO2 := Lib.hid hO2; replace hb2 := Lib.hid hb2; replace hc2 := Lib.hid hc2; replace hln := Lib.hid hln; replace hone := Lib.hid hone; replace hL := Lib.hid hL
      go_wp2_with (at_builtin; refine wpList_append_own _ rfl _ _ 40 rfl w.heap.size 5 i0 (.int .u8 0) 1 1 Tryz.underlying40 hi.out hz0.out hz1.out hz2.out rfl (by decide) _ _ _ rfl hrow.out ⟨g, 0, none⟩ L c2 (Lib.byteCells N) rfl hln.out hc2.out hone.out ?c3 ?c4 ?c5 ?c6)
      case c3 => have := mx.out; omega
      case c4 => omega
      case c5 => exact hbs
      case c6 =>
        intro v' w3 hown' hgrow _
        have hlow3 : Below w.heap.size w w3 := hlow.out.grown hgrow hbs (fun k hk => (hrow.out.lt k hk).1)
        have hR3 : RisW w (intsB (l.take (k + 1))) v' w3 := by
          refine ⟨hlow3, ⟨?_⟩⟩
          rw [hst.out, List.length_append, byteCells_app2]
          rw [hL.out] at hown'
          exact hown'
        replace hown' := Lib.hid hown'
        replace hgrow := Lib.hid hgrow; replace hlow3 := Lib.hid hlow3; replace hR3 := Lib.hid hR3
        go_wp2
        go_roundw
        case rel => exact ⟨k + 1, by go_num, by omega, hR3.out⟩
        case measure => simp [intOf]; omega
    · have hkn1 : ¬ (k : Int) < n := by omega
      have hR2 : RisW w (intsB l) u3 wr := by
        have := hR.out
        rw [List.take_of_length_le (by rw [hlen.out]; omega)] at this
        exact this
      replace hR2 := Lib.hid hR2
      go_wp2
      go_ret
      exact ⟨u3, rfl, hR2.out.own, hR2.out.low⟩
end Go.Proofs.YteoihdkaoipocaaGreatDoor

/- The document's events: Put 16. Plain theorems: no condition. -/
namespace Go.Proofs.YteoihdkaoipocaaGreatDoor
open Go.RowKit Go.Maps

theorem ints_new (w : World) (l : List Int) (h : l.length ≤ 100) : IntsAt (w.alloc (.cells (l.map (Value.int .i64)).toArray 3 (0, 0))) (some ⟨w.heap.size, 0, none⟩) l.length l :=
  ⟨rfl, by omega, fun i x hx => ⟨w.heap.size, 0, rfl, by simp, by
    rw [Nat.zero_add, blk_cell (blk_new w _)]
    rw [List.getElem?_toArray, List.getElem?_map, hx]
    rfl⟩⟩
/-- its bytes, kind by kind -/
theorem evB_no {e : Evp} (hs : e.specs = []) {fs : List Fld} (hf : fldsOf e.n.kind = some fs) (h2 : e.n.kind ≠ 2) : evB e = intsB (e.n.kind :: fs.map fun f => e.n.get f.1) := by
  unfold evB
  rw [hf]
  simp only [if_neg h2, hs, List.flatMap_nil, List.append_nil]
  unfold fldsB intsB
  rw [List.flatMap_cons, List.flatMap_map]
theorem evB_two {e : Evp} (h2 : e.n.kind = 2) : evB e = intsB [2, e.n.client, e.n.seq, (e.specs.length : Int)] ++ e.specs.flatMap spB := by
  have hf : fldsOf e.n.kind = some [fldCl, fldSq] := by rw [h2]; rfl
  unfold evB
  rw [hf]
  simp only [if_pos h2]
  rw [h2]
  simp [fldsB, intsB, fldCl, fldSq, Evn.get]
structure RpL (w : World) (x : Evv) (l : List UInt8) (v : Value) (wr : World) : Prop where
  bx : BoxE w x wr
  own : OwnB wr (w.heap.size + 1) v l
set_option maxRecDepth 100000 in
set_option maxHeartbeats 6400000 in
theorem rput_any (x : Evv) (w : World) (hx : x.ok w) : Calls Tryz.prog 16 #[x.val] w (RcdPost (putB x.pl) w) := by
  have hB0 := BoxE.new w x
  have hmy := rmayE_any x _ (hB0.ok hx)
  have hlen : x.sps.length = x.m := hx.sps.len
  have hrng := hx.rng
  obtain ⟨⟨kind, epoch, tick, client, seq, job, attempt, node, how⟩, so, m, c, sps⟩ := x
  obtain ⟨X, hX⟩ : ∃ X : Evv, X = ⟨⟨kind, epoch, tick, client, seq, job, attempt, node, how⟩, so, m, c, sps⟩ := ⟨_, rfl⟩
  simp only at hlen hrng
  obtain ⟨b, hb⟩ : ∃ b, b = mayE X.pl := ⟨_, rfl⟩
  rw [← hX, ← hb, hX] at hmy
  rw [← hX]
  obtain ⟨P, hP⟩ : ∃ P, P = putB X.pl := ⟨_, rfl⟩
  rw [← hP, hX]
  cases b with
  | false =>
    have hput : P = [] := by rw [hP]; unfold putB; rw [← hb]; rfl
    replace hB0 := Lib.hid hB0; replace hmy := Lib.hid hmy; replace hx := Lib.hid hx; replace hX := Lib.hid hX; replace hb := Lib.hid hb; replace hput := Lib.hid hput; replace hlen := Lib.hid hlen; replace hrng := Lib.hid hrng; replace hP := Lib.hid hP
    go_enter Tryz.func16, Tryz.ntmps16
    go_wp2_with fail
    refine hmy.out.mono ?_
    rintro e w1 ⟨rfl, hb1⟩
    have hB1 := hB0.out.below hb1
    replace hb1 := Lib.hid hb1; replace hB1 := Lib.hid hB1
    go_wp2
    go_ret
    exact ⟨_, rfl, by rw [hput.out]; exact ⟨rfl, .inl ⟨rfl, rfl⟩⟩, hB1.out.low⟩
  | true =>
    obtain ⟨fs, hf, h2, h8, hall⟩ := mayE_parts hb.symm
    have hmt : mayE X.pl = true := hb.symm
    rw [hX] at hf h2 h8 hall
    simp only [Evv.pl, List.length_map, hlen] at hf h2 h8
    have hsp : kind ≠ 2 → X.pl.specs = [] := fun h => by
      rw [hX]
      show sps.map Spv.pl = []
      have : ¬ 0 < m := fun c => h (h2.2 c)
      rw [List.map_eq_nil_iff]
      exact List.eq_nil_of_length_eq_zero (by rw [hlen]; omega)
    have r1 := hrng 1; have r2 := hrng 2; have r3 := hrng 3; have r4 := hrng 4; have r5 := hrng 5; have r6 := hrng 6; have r7 := hrng 7; have r8 := hrng 8
    simp only [Evn.get] at r1 r2 r3 r4 r5 r6 r7 r8
    replace hB0 := Lib.hid hB0; replace hmy := Lib.hid hmy; replace hx := Lib.hid hx; replace hX := Lib.hid hX; replace hb := Lib.hid hb; replace hlen := Lib.hid hlen; replace hrng := Lib.hid hrng; replace hf := Lib.hid hf; replace h2 := Lib.hid h2; replace hall := Lib.hid hall; replace hsp := Lib.hid hsp; replace hmt := Lib.hid hmt; replace hP := Lib.hid hP
    go_enter Tryz.func16, Tryz.ntmps16
    go_wp2_with fail
    refine hmy.out.mono ?_
    rintro e w1 ⟨rfl, hb1⟩
    have hB1 := hB0.out.below hb1
    replace hb1 := Lib.hid hb1; replace hB1 := Lib.hid hB1
    have y0 : w1.cell? ⟨w.heap.size, 0, none⟩ = some (.int .i64 kind) := blk_cell hB1.out.box 0
    have y1 : w1.cell? ⟨w.heap.size, 1, none⟩ = some (.int .i64 epoch) := blk_cell hB1.out.box 1
    have y2 : w1.cell? ⟨w.heap.size, 2, none⟩ = some (.int .i64 tick) := blk_cell hB1.out.box 2
    have y3 : w1.cell? ⟨w.heap.size, 3, none⟩ = some (.int .i64 client) := blk_cell hB1.out.box 3
    have y4 : w1.cell? ⟨w.heap.size, 4, none⟩ = some (.int .i64 seq) := blk_cell hB1.out.box 4
    have y5 : w1.cell? ⟨w.heap.size, 5, none⟩ = some (.int .i64 job) := blk_cell hB1.out.box 5
    have y6 : w1.cell? ⟨w.heap.size, 6, none⟩ = some (.int .i64 attempt) := blk_cell hB1.out.box 6
    have y7 : w1.cell? ⟨w.heap.size, 7, none⟩ = some (.int .i64 node) := blk_cell hB1.out.box 7
    have y8 : w1.cell? ⟨w.heap.size, 8, none⟩ = some (.int .i64 how) := blk_cell hB1.out.box 8
    have y9 : w1.cell? ⟨w.heap.size, 9, none⟩ = some (.slice so m c) := blk_cell hB1.out.box 9
    by_cases k1 : kind = 1
    · subst k1
      have hput : P = intsB [1, epoch] := by
        rw [hP.out]
        unfold putB
        rw [if_pos hmt.out, evB_no (hsp.out (by decide)) (by rw [hX.out]; rfl) (by rw [hX.out]; show (1 : Int) ≠ 2; decide), hX.out]
        rfl
      replace hput := Lib.hid hput
      have hk : Calls Tryz.prog 48 #[.slice (some ⟨w1.heap.size, 0, none⟩) 2 2] (w1.alloc (.cells (([1, epoch] : List Int).map (Value.int .i64)).toArray 3 (0, 0))) (RcdPost (intsB [1, epoch]) (w1.alloc (.cells (([1, epoch] : List Int).map (Value.int .i64)).toArray 3 (0, 0)))) := rints_any _ 2 2 [1, epoch] _ (ints_new w1 [1, epoch] (by simp)) (by omega) (by simp; omega)
      replace hk := Lib.hid hk
      go_wp2_with fail
      refine hk.out.mono ?_
      rintro e w2 ⟨v, rfl, hO, hb2⟩
      have hlow : Below w.heap.size w w2 := hB1.out.low.trans (((Below.refl _ _).alloc (Nat.le_refl _) _).trans (hb2.mono (by simp)) |>.mono hB1.out.low.size)
      have hO2 : OwnB w2 w.heap.size v (P) := by
        rw [hput.out]
        exact hO.base (Nat.le_trans hB1.out.low.size (by simp))
      replace hO := Lib.hid hO; replace hb2 := Lib.hid hb2; replace hlow := Lib.hid hlow; replace hO2 := Lib.hid hO2
      go_wp2
      go_ret
      exact ⟨v, rfl, hO2.out, hlow.out⟩
    by_cases k6 : kind = 6
    · subst k6
      have hput : P = intsB [6, tick] := by
        rw [hP.out]
        unfold putB
        rw [if_pos hmt.out, evB_no (hsp.out (by decide)) (by rw [hX.out]; rfl) (by rw [hX.out]; show (6 : Int) ≠ 2; decide), hX.out]
        rfl
      replace hput := Lib.hid hput
      have hk : Calls Tryz.prog 48 #[.slice (some ⟨w1.heap.size, 0, none⟩) 2 2] (w1.alloc (.cells (([6, tick] : List Int).map (Value.int .i64)).toArray 3 (0, 0))) (RcdPost (intsB [6, tick]) (w1.alloc (.cells (([6, tick] : List Int).map (Value.int .i64)).toArray 3 (0, 0)))) := rints_any _ 2 2 [6, tick] _ (ints_new w1 [6, tick] (by simp)) (by omega) (by simp; omega)
      replace hk := Lib.hid hk
      go_wp2_with fail
      refine hk.out.mono ?_
      rintro e w2 ⟨v, rfl, hO, hb2⟩
      have hlow : Below w.heap.size w w2 := hB1.out.low.trans (((Below.refl _ _).alloc (Nat.le_refl _) _).trans (hb2.mono (by simp)) |>.mono hB1.out.low.size)
      have hO2 : OwnB w2 w.heap.size v (P) := by
        rw [hput.out]
        exact hO.base (Nat.le_trans hB1.out.low.size (by simp))
      replace hO := Lib.hid hO; replace hb2 := Lib.hid hb2; replace hlow := Lib.hid hlow; replace hO2 := Lib.hid hO2
      go_wp2
      go_ret
      exact ⟨v, rfl, hO2.out, hlow.out⟩
    by_cases k3 : kind = 3
    · subst k3
      have hput : P = intsB [3, client, seq, job] := by
        rw [hP.out]
        unfold putB
        rw [if_pos hmt.out, evB_no (hsp.out (by decide)) (by rw [hX.out]; rfl) (by rw [hX.out]; show (3 : Int) ≠ 2; decide), hX.out]
        rfl
      replace hput := Lib.hid hput
      have hk : Calls Tryz.prog 48 #[.slice (some ⟨w1.heap.size, 0, none⟩) 4 4] (w1.alloc (.cells (([3, client, seq, job] : List Int).map (Value.int .i64)).toArray 3 (0, 0))) (RcdPost (intsB [3, client, seq, job]) (w1.alloc (.cells (([3, client, seq, job] : List Int).map (Value.int .i64)).toArray 3 (0, 0)))) := rints_any _ 4 4 [3, client, seq, job] _ (ints_new w1 [3, client, seq, job] (by simp)) (by omega) (by simp; omega)
      replace hk := Lib.hid hk
      go_wp2_with fail
      refine hk.out.mono ?_
      rintro e w2 ⟨v, rfl, hO, hb2⟩
      have hlow : Below w.heap.size w w2 := hB1.out.low.trans (((Below.refl _ _).alloc (Nat.le_refl _) _).trans (hb2.mono (by simp)) |>.mono hB1.out.low.size)
      have hO2 : OwnB w2 w.heap.size v (P) := by
        rw [hput.out]
        exact hO.base (Nat.le_trans hB1.out.low.size (by simp))
      replace hO := Lib.hid hO; replace hb2 := Lib.hid hb2; replace hlow := Lib.hid hlow; replace hO2 := Lib.hid hO2
      go_wp2
      go_ret
      exact ⟨v, rfl, hO2.out, hlow.out⟩
    by_cases k4 : kind = 4
    · subst k4
      have hput : P = intsB [4, client, seq, job] := by
        rw [hP.out]
        unfold putB
        rw [if_pos hmt.out, evB_no (hsp.out (by decide)) (by rw [hX.out]; rfl) (by rw [hX.out]; show (4 : Int) ≠ 2; decide), hX.out]
        rfl
      replace hput := Lib.hid hput
      have hk : Calls Tryz.prog 48 #[.slice (some ⟨w1.heap.size, 0, none⟩) 4 4] (w1.alloc (.cells (([4, client, seq, job] : List Int).map (Value.int .i64)).toArray 3 (0, 0))) (RcdPost (intsB [4, client, seq, job]) (w1.alloc (.cells (([4, client, seq, job] : List Int).map (Value.int .i64)).toArray 3 (0, 0)))) := rints_any _ 4 4 [4, client, seq, job] _ (ints_new w1 [4, client, seq, job] (by simp)) (by omega) (by simp; omega)
      replace hk := Lib.hid hk
      go_wp2_with fail
      refine hk.out.mono ?_
      rintro e w2 ⟨v, rfl, hO, hb2⟩
      have hlow : Below w.heap.size w w2 := hB1.out.low.trans (((Below.refl _ _).alloc (Nat.le_refl _) _).trans (hb2.mono (by simp)) |>.mono hB1.out.low.size)
      have hO2 : OwnB w2 w.heap.size v (P) := by
        rw [hput.out]
        exact hO.base (Nat.le_trans hB1.out.low.size (by simp))
      replace hO := Lib.hid hO; replace hb2 := Lib.hid hb2; replace hlow := Lib.hid hlow; replace hO2 := Lib.hid hO2
      go_wp2
      go_ret
      exact ⟨v, rfl, hO2.out, hlow.out⟩
    by_cases k5 : kind = 5
    · subst k5
      have hput : P = intsB [5, client, seq, job] := by
        rw [hP.out]
        unfold putB
        rw [if_pos hmt.out, evB_no (hsp.out (by decide)) (by rw [hX.out]; rfl) (by rw [hX.out]; show (5 : Int) ≠ 2; decide), hX.out]
        rfl
      replace hput := Lib.hid hput
      have hk : Calls Tryz.prog 48 #[.slice (some ⟨w1.heap.size, 0, none⟩) 4 4] (w1.alloc (.cells (([5, client, seq, job] : List Int).map (Value.int .i64)).toArray 3 (0, 0))) (RcdPost (intsB [5, client, seq, job]) (w1.alloc (.cells (([5, client, seq, job] : List Int).map (Value.int .i64)).toArray 3 (0, 0)))) := rints_any _ 4 4 [5, client, seq, job] _ (ints_new w1 [5, client, seq, job] (by simp)) (by omega) (by simp; omega)
      replace hk := Lib.hid hk
      go_wp2_with fail
      refine hk.out.mono ?_
      rintro e w2 ⟨v, rfl, hO, hb2⟩
      have hlow : Below w.heap.size w w2 := hB1.out.low.trans (((Below.refl _ _).alloc (Nat.le_refl _) _).trans (hb2.mono (by simp)) |>.mono hB1.out.low.size)
      have hO2 : OwnB w2 w.heap.size v (P) := by
        rw [hput.out]
        exact hO.base (Nat.le_trans hB1.out.low.size (by simp))
      replace hO := Lib.hid hO; replace hb2 := Lib.hid hb2; replace hlow := Lib.hid hlow; replace hO2 := Lib.hid hO2
      go_wp2
      go_ret
      exact ⟨v, rfl, hO2.out, hlow.out⟩
    by_cases k7 : kind = 7
    · subst k7
      have hput : P = intsB [7, job, attempt, node, how] := by
        rw [hP.out]
        unfold putB
        rw [if_pos hmt.out, evB_no (hsp.out (by decide)) (by rw [hX.out]; rfl) (by rw [hX.out]; show (7 : Int) ≠ 2; decide), hX.out]
        rfl
      replace hput := Lib.hid hput
      have hk : Calls Tryz.prog 48 #[.slice (some ⟨w1.heap.size, 0, none⟩) 5 5] (w1.alloc (.cells (([7, job, attempt, node, how] : List Int).map (Value.int .i64)).toArray 3 (0, 0))) (RcdPost (intsB [7, job, attempt, node, how]) (w1.alloc (.cells (([7, job, attempt, node, how] : List Int).map (Value.int .i64)).toArray 3 (0, 0)))) := rints_any _ 5 5 [7, job, attempt, node, how] _ (ints_new w1 [7, job, attempt, node, how] (by simp)) (by omega) (by simp; omega)
      replace hk := Lib.hid hk
      go_wp2_with fail
      refine hk.out.mono ?_
      rintro e w2 ⟨v, rfl, hO, hb2⟩
      have hlow : Below w.heap.size w w2 := hB1.out.low.trans (((Below.refl _ _).alloc (Nat.le_refl _) _).trans (hb2.mono (by simp)) |>.mono hB1.out.low.size)
      have hO2 : OwnB w2 w.heap.size v (P) := by
        rw [hput.out]
        exact hO.base (Nat.le_trans hB1.out.low.size (by simp))
      replace hO := Lib.hid hO; replace hb2 := Lib.hid hb2; replace hlow := Lib.hid hlow; replace hO2 := Lib.hid hO2
      go_wp2
      go_ret
      exact ⟨v, rfl, hO2.out, hlow.out⟩
    by_cases k8 : kind = 8
    · subst k8
      have hput : P = intsB [8, node, tick] := by
        rw [hP.out]
        unfold putB
        rw [if_pos hmt.out, evB_no (hsp.out (by decide)) (by rw [hX.out]; rfl) (by rw [hX.out]; show (8 : Int) ≠ 2; decide), hX.out]
        rfl
      replace hput := Lib.hid hput
      have hk : Calls Tryz.prog 48 #[.slice (some ⟨w1.heap.size, 0, none⟩) 3 3] (w1.alloc (.cells (([8, node, tick] : List Int).map (Value.int .i64)).toArray 3 (0, 0))) (RcdPost (intsB [8, node, tick]) (w1.alloc (.cells (([8, node, tick] : List Int).map (Value.int .i64)).toArray 3 (0, 0)))) := rints_any _ 3 3 [8, node, tick] _ (ints_new w1 [8, node, tick] (by simp)) (by omega) (by simp; omega)
      replace hk := Lib.hid hk
      go_wp2_with fail
      refine hk.out.mono ?_
      rintro e w2 ⟨v, rfl, hO, hb2⟩
      have hlow : Below w.heap.size w w2 := hB1.out.low.trans (((Below.refl _ _).alloc (Nat.le_refl _) _).trans (hb2.mono (by simp)) |>.mono hB1.out.low.size)
      have hO2 : OwnB w2 w.heap.size v (P) := by
        rw [hput.out]
        exact hO.base (Nat.le_trans hB1.out.low.size (by simp))
      replace hO := Lib.hid hO; replace hb2 := Lib.hid hb2; replace hlow := Lib.hid hlow; replace hO2 := Lib.hid hO2
      go_wp2
      go_ret
      exact ⟨v, rfl, hO2.out, hlow.out⟩
    by_cases k9 : kind = 9
    · subst k9
      have hput : P = intsB [9, node, tick] := by
        rw [hP.out]
        unfold putB
        rw [if_pos hmt.out, evB_no (hsp.out (by decide)) (by rw [hX.out]; rfl) (by rw [hX.out]; show (9 : Int) ≠ 2; decide), hX.out]
        rfl
      replace hput := Lib.hid hput
      have hk : Calls Tryz.prog 48 #[.slice (some ⟨w1.heap.size, 0, none⟩) 3 3] (w1.alloc (.cells (([9, node, tick] : List Int).map (Value.int .i64)).toArray 3 (0, 0))) (RcdPost (intsB [9, node, tick]) (w1.alloc (.cells (([9, node, tick] : List Int).map (Value.int .i64)).toArray 3 (0, 0)))) := rints_any _ 3 3 [9, node, tick] _ (ints_new w1 [9, node, tick] (by simp)) (by omega) (by simp; omega)
      replace hk := Lib.hid hk
      go_wp2_with fail
      refine hk.out.mono ?_
      rintro e w2 ⟨v, rfl, hO, hb2⟩
      have hlow : Below w.heap.size w w2 := hB1.out.low.trans (((Below.refl _ _).alloc (Nat.le_refl _) _).trans (hb2.mono (by simp)) |>.mono hB1.out.low.size)
      have hO2 : OwnB w2 w.heap.size v (P) := by
        rw [hput.out]
        exact hO.base (Nat.le_trans hB1.out.low.size (by simp))
      replace hO := Lib.hid hO; replace hb2 := Lib.hid hb2; replace hlow := Lib.hid hlow; replace hO2 := Lib.hid hO2
      go_wp2
      go_ret
      exact ⟨v, rfl, hO2.out, hlow.out⟩
    by_cases k10 : kind = 10
    · subst k10
      have hput : P = intsB [10, client, seq, node] := by
        rw [hP.out]
        unfold putB
        rw [if_pos hmt.out, evB_no (hsp.out (by decide)) (by rw [hX.out]; rfl) (by rw [hX.out]; show (10 : Int) ≠ 2; decide), hX.out]
        rfl
      replace hput := Lib.hid hput
      have hk : Calls Tryz.prog 48 #[.slice (some ⟨w1.heap.size, 0, none⟩) 4 4] (w1.alloc (.cells (([10, client, seq, node] : List Int).map (Value.int .i64)).toArray 3 (0, 0))) (RcdPost (intsB [10, client, seq, node]) (w1.alloc (.cells (([10, client, seq, node] : List Int).map (Value.int .i64)).toArray 3 (0, 0)))) := rints_any _ 4 4 [10, client, seq, node] _ (ints_new w1 [10, client, seq, node] (by simp)) (by omega) (by simp; omega)
      replace hk := Lib.hid hk
      go_wp2_with fail
      refine hk.out.mono ?_
      rintro e w2 ⟨v, rfl, hO, hb2⟩
      have hlow : Below w.heap.size w w2 := hB1.out.low.trans (((Below.refl _ _).alloc (Nat.le_refl _) _).trans (hb2.mono (by simp)) |>.mono hB1.out.low.size)
      have hO2 : OwnB w2 w.heap.size v (P) := by
        rw [hput.out]
        exact hO.base (Nat.le_trans hB1.out.low.size (by simp))
      replace hO := Lib.hid hO; replace hb2 := Lib.hid hb2; replace hlow := Lib.hid hlow; replace hO2 := Lib.hid hO2
      go_wp2
      go_ret
      exact ⟨v, rfl, hO2.out, hlow.out⟩
    by_cases k11 : kind = 11
    · subst k11
      have hput : P = intsB [11, client, seq, node] := by
        rw [hP.out]
        unfold putB
        rw [if_pos hmt.out, evB_no (hsp.out (by decide)) (by rw [hX.out]; rfl) (by rw [hX.out]; show (11 : Int) ≠ 2; decide), hX.out]
        rfl
      replace hput := Lib.hid hput
      have hk : Calls Tryz.prog 48 #[.slice (some ⟨w1.heap.size, 0, none⟩) 4 4] (w1.alloc (.cells (([11, client, seq, node] : List Int).map (Value.int .i64)).toArray 3 (0, 0))) (RcdPost (intsB [11, client, seq, node]) (w1.alloc (.cells (([11, client, seq, node] : List Int).map (Value.int .i64)).toArray 3 (0, 0)))) := rints_any _ 4 4 [11, client, seq, node] _ (ints_new w1 [11, client, seq, node] (by simp)) (by omega) (by simp; omega)
      replace hk := Lib.hid hk
      go_wp2_with fail
      refine hk.out.mono ?_
      rintro e w2 ⟨v, rfl, hO, hb2⟩
      have hlow : Below w.heap.size w w2 := hB1.out.low.trans (((Below.refl _ _).alloc (Nat.le_refl _) _).trans (hb2.mono (by simp)) |>.mono hB1.out.low.size)
      have hO2 : OwnB w2 w.heap.size v (P) := by
        rw [hput.out]
        exact hO.base (Nat.le_trans hB1.out.low.size (by simp))
      replace hO := Lib.hid hO; replace hb2 := Lib.hid hb2; replace hlow := Lib.hid hlow; replace hO2 := Lib.hid hO2
      go_wp2
      go_ret
      exact ⟨v, rfl, hO2.out, hlow.out⟩
    by_cases k2 : kind = 2
    rotate_left
    · have := hf.out
      unfold fldsOf at this
      rw [if_neg k1, if_neg k2, if_neg (by omega), if_neg k6, if_neg k7, if_neg (by omega), if_neg (by omega)] at this
      cases this
    subst k2
    obtain ⟨i0, hi, hz0, hz1, hz2⟩ := info_parts info5b
    have mx : maxLen = 9223372036854775807 := by kernel_rfl
    have hput : P = intsB [2, client, seq, (m : Int)] ++ (sps.map Spv.pl).flatMap spB := by
      rw [hP.out]
      unfold putB
      rw [if_pos hmt.out, evB_two (by rw [hX.out]; rfl), hX.out]
      simp only [Evv.pl, List.length_map, hlen.out]
    have hk : Calls Tryz.prog 48 #[.slice (some ⟨w1.heap.size, 0, none⟩) 4 4] (w1.alloc (.cells (([2, client, seq, (m : Int)] : List Int).map (Value.int .i64)).toArray 3 (0, 0))) (RcdPost (intsB [2, client, seq, (m : Int)]) (w1.alloc (.cells (([2, client, seq, (m : Int)] : List Int).map (Value.int .i64)).toArray 3 (0, 0)))) := rints_any _ 4 4 [2, client, seq, (m : Int)] _ (ints_new w1 [2, client, seq, (m : Int)] (by simp)) (by omega) (by simp; omega)
    have hl0 : (intsB [2, client, seq, (m : Int)]).length ≤ 40 := intsB_len (by simp; omega)
    obtain ⟨I, hI⟩ : ∃ I, I = intsB [2, client, seq, (m : Int)] := ⟨_, rfl⟩
    rw [← hI] at hput hk hl0
    clear k1 k6 k3 k4 k5 k7 k8 k9 k10 k11
    replace hk := Lib.hid hk; replace hi := Lib.hid hi; replace hz0 := Lib.hid hz0; replace hz1 := Lib.hid hz1; replace hz2 := Lib.hid hz2; replace mx := Lib.hid mx; replace hput := Lib.hid hput; replace hI := Lib.hid hI
    go_wp2_with fail
    refine hk.out.mono ?_
    rintro e w2 ⟨v, rfl, hO, hb2⟩
    have hb12 : Below w1.heap.size w1 w2 := ((Below.refl _ _).alloc (Nat.le_refl _) _).trans (hb2.mono (by simp))
    have hB2 := hB1.out.below hb12
    have hR0 : RpL w ⟨⟨2, epoch, tick, client, seq, job, attempt, node, how⟩, so, m, c, sps⟩ (I ++ ((sps.map Spv.pl).take 0).flatMap spB) v w2 := ⟨hB2, by
      rw [List.take_zero, List.flatMap_nil, List.append_nil]
      exact hO.base (Nat.le_trans (blk_lt hB1.out.box) (by simp))⟩
    clear y0 y1 y2 y3 y4 y5 y6 y7 y8 y9
    replace hO := Lib.hid hO; replace hb2 := Lib.hid hb2; replace hb12 := Lib.hid hb12; replace hB2 := Lib.hid hB2; replace hR0 := Lib.hid hR0
    go_wp2
    go_loopw [4, 5] (fun bv iv wr => ∃ k : Nat, iv = .int .i64 k ∧ k ≤ m ∧ Hid (RpL w ⟨⟨2, epoch, tick, client, seq, job, attempt, node, how⟩, so, m, c, sps⟩ (I ++ ((sps.map Spv.pl).take k).flatMap spB) bv wr)) (fun _ iv _ => m - (intOf iv).toNat)
    case atStart => exact ⟨0, rfl, Nat.zero_le _, hR0.out⟩
    case round =>
      obtain ⟨k, rfl, hk, hR⟩ := hrel
      have y9 : wr.cell? ⟨w.heap.size, 9, none⟩ = some (.slice so m c) := blk_cell hR.out.bx.box 9
      by_cases hkm : k < m
      · have hkm1 : (k : Int) < m := by omega
        have hk0 : (0 : Int) ≤ (k : Int) := by omega
        obtain ⟨s, hs⟩ : ∃ s, sps[k]? = some s := ⟨_, List.getElem?_eq_getElem (by rw [hlen.out]; omega)⟩
        have hxr := hx.out.sps.low hR.out.bx.low
        obtain ⟨b, off, hso, hbl, hcell, hsok⟩ := hxr.cell k s hs
        simp only at hso
        have hsm : mayS s.pl = true := hall.out _ (List.mem_map_of_mem (List.mem_of_getElem? hs))
        have hstp := spB_step (ss := sps.map Spv.pl) (k := k) (s := s.pl) (by rw [List.getElem?_map, hs]; rfl)
        have hst := rstext_any s wr hsok
        have hsl := textS_len hsm
        obtain ⟨t, ht⟩ : ∃ t, t = textS s.pl := ⟨_, rfl⟩
        rw [← ht] at hst hsl
        have hspb : spB s.pl = uintB (ofL t).size ++ (ofL t).data.toList := by unfold spB; rw [← ht, ofL_size, ofL_toL]
        have htx := fun W => rtext_put (ofL t) W (by rw [ofL_size]; omega)
        rw [← hspb] at htx
        obtain ⟨N, hN⟩ : ∃ N, N = spB s.pl := ⟨_, rfl⟩
        have hNl : N.length ≤ 1820 := by rw [hN]; exact spB_len hsm
        have hNe : N ≠ [] := by rw [hN]; unfold spB; intro e; exact uintB_ne _ (List.append_eq_nil_iff.1 e).1
        rw [← hN] at hstp htx
        obtain ⟨B, hB⟩ : ∃ B, B = I ++ ((sps.map Spv.pl).take k).flatMap spB := ⟨_, rfl⟩
        have hBl : B.length ≤ 20000 := by
          rw [hB, List.length_append]
          have h1 := flatMap_len spB 1820 ((sps.map Spv.pl).take k) fun y hy => spB_len (hall.out y (List.mem_of_mem_take hy))
          have h3 := List.length_take_le k (sps.map Spv.pl)
          omega
        have hnx : I ++ ((sps.map Spv.pl).take (k + 1)).flatMap spB = B ++ N := by rw [hstp, hB, List.append_assoc]
        have hRo := hR.out.own
        rw [← hB] at hRo
        obtain ⟨⟨user, part, nodes, ⟨da, db, dc, dd⟩, wall, prio, array, retries, held, after⟩, sso, sn, scp⟩ := s
        subst hso
        have z0 : wr.cell? ⟨b, off + k * 13, none⟩ = some (.string user) := hcell 0 (by omega)
        have z1 : wr.cell? ⟨b, off + k * 13 + 1, none⟩ = some (.string part) := hcell 1 (by omega)
        have z2 : wr.cell? ⟨b, off + k * 13 + 2, none⟩ = some (.int .i64 nodes) := hcell 2 (by omega)
        have z3 : wr.cell? ⟨b, off + k * 13 + 3, none⟩ = some (.int .i64 da) := hcell 3 (by omega)
        have z4 : wr.cell? ⟨b, off + k * 13 + 4, none⟩ = some (.int .i64 db) := hcell 4 (by omega)
        have z5 : wr.cell? ⟨b, off + k * 13 + 5, none⟩ = some (.int .i64 dc) := hcell 5 (by omega)
        have z6 : wr.cell? ⟨b, off + k * 13 + 6, none⟩ = some (.int .i64 dd) := hcell 6 (by omega)
        have z7 : wr.cell? ⟨b, off + k * 13 + 7, none⟩ = some (.int .i64 wall) := hcell 7 (by omega)
        have z8 : wr.cell? ⟨b, off + k * 13 + 8, none⟩ = some (.int .i64 prio) := hcell 8 (by omega)
        have z9 : wr.cell? ⟨b, off + k * 13 + 9, none⟩ = some (.int .i64 array) := hcell 9 (by omega)
        have z10 : wr.cell? ⟨b, off + k * 13 + 10, none⟩ = some (.int .i64 retries) := hcell 10 (by omega)
        have z11 : wr.cell? ⟨b, off + k * 13 + 11, none⟩ = some (.bool held) := hcell 11 (by omega)
        have z12 : wr.cell? ⟨b, off + k * 13 + 12, none⟩ = some (.slice sso sn scp) := hcell 12 (by omega)
        clear hstp hspb
        replace hs := Lib.hid hs; replace hxr := Lib.hid hxr; replace hbl := Lib.hid hbl; replace hcell := Lib.hid hcell; replace hsok := Lib.hid hsok; replace hsm := Lib.hid hsm; replace hst := Lib.hid hst; replace ht := Lib.hid ht; replace htx := Lib.hid htx; replace hN := Lib.hid hN; replace hNe := Lib.hid hNe; replace hB := Lib.hid hB; replace hnx := Lib.hid hnx; replace hRo := Lib.hid hRo
        go_wp2_with fail
        refine hst.out.mono ?_
        rintro e w3 ⟨rfl, hb3⟩
        clear z0 z1 z2 z3 z4 z5 z6 z7 z8 z9 z10 z11 z12
        clear y9
        replace hb3 := Lib.hid hb3
        go_wp2_with fail
        refine (htx.out _).mono ?_
        rintro e w4 ⟨v4, rfl, hO4, hb4⟩
        have hb34 : Below wr.heap.size wr w4 := hb3.out.trans (hb4.mono hb3.out.size)
        have hBx := hR.out.bx.below hb34
        have hrow := (hRo.out.low hb34).row
        obtain ⟨g, c2, rfl, hc2⟩ := hO4.some hNe.out
        obtain ⟨L, hL⟩ : ∃ L, L = N.length := ⟨_, rfl⟩
        have hln : (Lib.byteCells N).length = L * 1 := by rw [Lib.byteCells_length, Nat.mul_one, hL]
        have hone := Lib.byteCells_one N
        have hbs : w.heap.size + 1 ≤ w4.heap.size := blk_lt hBx.box
        rw [← hL] at hNl ⊢
        replace hb4 := Lib.hid hb4; replace hb34 := Lib.hid hb34; replace hBx := Lib.hid hBx; replace hrow := Lib.hid hrow; replace hO4 := Lib.hid hO4; replace hc2 := Lib.hid hc2; replace hln := Lib.hid hln; replace hone := Lib.hid hone; replace hL := Lib.hid hL
        go_wp2_with (at_builtin; refine wpList_append_own _ rfl _ _ 40 rfl (w.heap.size + 1) 5 i0 (.int .u8 0) 1 1 Tryz.underlying40 hi.out hz0.out hz1.out hz2.out rfl (by decide) _ _ _ rfl hrow.out ⟨g, 0, none⟩ L c2 (Lib.byteCells N) rfl hln.out hc2.out hone.out ?c3 ?c4 ?c5 ?c6)
        case c3 => have := mx.out; omega
        case c4 => omega
        case c5 => exact hbs
        case c6 =>
          intro v' w5 hown' hgrow _
          have hlt := hrow.out.lt
          have hR5 : RpL w ⟨⟨2, epoch, tick, client, seq, job, attempt, node, how⟩, some ⟨b, off, none⟩, m, c, sps⟩ (I ++ ((sps.map Spv.pl).take (k + 1)).flatMap spB) v' w5 := by
            refine ⟨?_, ⟨?_⟩⟩
            · refine ⟨hBx.out.low.grown hgrow hBx.out.low.size (fun k hk => by have := (hlt k hk).1; omega), ?_⟩
              exact (hgrow.block _ (by omega) (fun e => by have := (hlt _ e.symm).1; omega)).trans hBx.out.box
            · rw [hnx.out, List.length_append, byteCells_app2]
              rw [hL.out] at hown'
              exact hown'
          replace hown' := Lib.hid hown'
          replace hgrow := Lib.hid hgrow; replace hR5 := Lib.hid hR5
          go_wp2
          go_roundw
          case rel => exact ⟨k + 1, by go_num, by omega, hR5.out⟩
          case measure => simp [intOf]; omega
      · have hkm1 : ¬ (k : Int) < m := by omega
        have hfin : I ++ ((sps.map Spv.pl).take k).flatMap spB = P := by
          rw [hput.out, List.take_of_length_le (by rw [List.length_map, hlen.out]; omega)]
        have hO5 := hR.out.own
        rw [hfin] at hO5
        replace hfin := Lib.hid hfin; replace hO5 := Lib.hid hO5
        go_wp2
        go_ret
        exact ⟨u4, rfl, hO5.out.base (Nat.le_succ _), hR.out.bx.low⟩
end Go.Proofs.YteoihdkaoipocaaGreatDoor

/- corveelaw13.EventPuts: whether any event may be, and its bytes, are the ones of the document. Plain theorems: no condition. -/
namespace Go.Proofs.YteoihdkaoipocaaGreatDoor
open Go.RowKit Go.Maps

theorem eclient_any (k : Int) (w : World) : Calls Tryz.prog 17 #[.int .i64 k] w fun e w' => e = .returned (.bool (clientK k)) ∧ w' = w := by
  by_cases h : k = 2 ∨ k = 3 ∨ k = 4 ∨ k = 5 ∨ k = 10 ∨ k = 11
  · have hz : clientK k = true := by rcases h with rfl | rfl | rfl | rfl | rfl | rfl <;> rfl
    obtain ⟨z, hz2⟩ : ∃ z, z = clientK k := ⟨_, rfl⟩
    rw [← hz2] at hz ⊢
    subst hz
    clear hz2
    rcases h with rfl | rfl | rfl | rfl | rfl | rfl
    all_goals
      go_enter Tryz.func17, Tryz.ntmps17
      go_wp2
      go_ret
      exact ⟨rfl, rfl⟩
  · have hz : clientK k = false := by
      rw [Bool.eq_false_iff]
      intro c
      simp [clientK, betw] at c
      omega
    obtain ⟨z, hz2⟩ : ∃ z, z = clientK k := ⟨_, rfl⟩
    rw [← hz2] at hz ⊢
    subst hz
    have d2 : (k == (2 : Int)) = false := beq_eq_false_iff_ne.2 (by omega)
    have d3 : (k == (3 : Int)) = false := beq_eq_false_iff_ne.2 (by omega)
    have d4 : (k == (4 : Int)) = false := beq_eq_false_iff_ne.2 (by omega)
    have d5 : (k == (5 : Int)) = false := beq_eq_false_iff_ne.2 (by omega)
    have d10 : (k == (10 : Int)) = false := beq_eq_false_iff_ne.2 (by omega)
    have d11 : (k == (11 : Int)) = false := beq_eq_false_iff_ne.2 (by omega)
    clear hz2 h
    go_enter Tryz.func17, Tryz.ntmps17
    go_wp2
    go_ret
    exact ⟨rfl, rfl⟩
/-- an event in a box -/
structure EoW (w : World) (eb : Nat) (X : Evv) (wr : World) : Prop where
  low : Below w.heap.size w wr
  box : wr.heap[eb]? = some (.cells X.cells 43 (0, 0))
  ok : X.ok wr
theorem EoW.go {w wr w' : World} {eb : Nat} {X : Evv} (h : EoW w eb X wr) (hb : Below wr.heap.size wr w') : EoW w eb X w' :=
  ⟨h.low.trans (hb.mono h.low.size), blk_below hb h.box (blk_lt h.box), h.ok.low hb⟩
def SomeBool (w : World) (e : Ending) (w' : World) : Prop := (∃ b, e = .returned (.bool b)) ∧ Below w.heap.size w w'
theorem putB_len {e : Evp} (hr : ∀ i, -9223372036854775808 ≤ e.n.get i ∧ e.n.get i ≤ 9223372036854775807) : (putB e).length ≤ 100000 := by
  unfold putB
  split
  · next h =>
    obtain ⟨fs, hf, _, h8, hall⟩ := mayE_parts h
    have h1 := (flds_ok hf).1
    have h2 := fldsB_len (fs := fs) hr
    have h3 : (uintB (zz e.n.kind)).length ≤ 10 := uintB_ten (zz_lt (hr 0).1 (hr 0).2)
    have h4 := flatMap_len spB 1820 e.specs fun s hs => spB_len (hall s hs)
    have h5 : (uintB (zz (e.specs.length : Int))).length ≤ 10 := uintB_ten (zz_lt (by omega) (by omega))
    unfold evB
    rw [hf]
    simp only [List.length_append]
    split
    · omega
    · simp only [List.length_nil]; omega
  · simp
set_option maxRecDepth 100000 in
set_option maxHeartbeats 6400000 in
theorem eputs_any (ho : Option Addr) (hn hc : Nat) (l : List UInt8) (x : Evv) (w : World) (hb : BytsAt w ho hn l) (hso : ho = none → hn = 0 ∧ hc = 0) (hx : x.ok w) (hm : Mx w) (ht : Tb w) : Calls Tryz.prog 4 #[.slice ho hn hc, x.val] w fun e w' => e = .returned (.bool true) ∧ Below w.heap.size w w' := by
  have hB0 := BoxE.new w x
  have hc1 := awake13 (w.alloc (.cells x.cells 43 (0, 0))) (hm.low hB0.low) (ht.low hB0.low)
  have hmax := hb.max
  have hlo : ∀ W, EoW w w.heap.size x W → Calls Tryz.prog 12 #[x.val] W (SomeBool W) := fun W h => elong_any x W h.ok
  obtain ⟨b, hbm⟩ : ∃ b, b = mayE x.pl := ⟨_, rfl⟩
  have hmy : ∀ W, EoW w w.heap.size x W → Calls Tryz.prog 13 #[x.val] W fun e w' => e = .returned (.bool b) ∧ Below W.heap.size W w' := fun W h => by rw [hbm]; exact rmayE_any x W h.ok
  obtain ⟨E, hE⟩ : ∃ E, E = errE x.pl := ⟨_, rfl⟩
  have hck : ∀ W, EoW w w.heap.size x W → Calls Tryz.prog 14 #[x.val] W fun e w' => e = .returned (.int .i64 E) ∧ Below W.heap.size W w' := fun W h => by rw [hE]; exact echeck_any x W h.ok
  obtain ⟨P, hP⟩ : ∃ P, P = putB x.pl := ⟨_, rfl⟩
  have hpu : hn ≤ 10000 → ∀ W, EoW w w.heap.size x W → Calls Tryz.prog 15 #[.slice ho hn hc, x.val] W fun e w' => (∃ so c, e = .returned (.slice so (hn + P.length) c) ∧ BytsAt w' so (hn + P.length) (l ++ P)) ∧ Below W.heap.size W w' := fun h10 W h => by
    have h2 := eput_any x ho hn hc l W h.ok (hb.low h.low) hso (by omega) (ht.low h.low)
    rw [← hP] at h2
    refine h2.mono fun e w' hh => ?_
    obtain ⟨v, rfl, hO, hbl⟩ := hh
    obtain ⟨so, c, rfl, hy⟩ := hO.form
    rw [List.length_append, hb.len] at hy ⊢
    exact ⟨⟨so, c, rfl, hy⟩, hbl⟩
  have hrp : ∀ W, EoW w w.heap.size x W → Calls Tryz.prog 16 #[x.val] W fun e w' => (∃ so c, e = .returned (.slice so P.length c) ∧ BytsAt w' so P.length P) ∧ Below W.heap.size W w' := fun W h => by
    refine (rput_any x W h.ok).mono fun e w' hh => ?_
    obtain ⟨v, rfl, hO, hbl⟩ := hh
    rw [← hP] at hO
    obtain ⟨so, c, rfl, hy⟩ := hO.form
    exact ⟨⟨so, c, rfl, hy⟩, hbl⟩
  have hX0 : EoW w w.heap.size x (w.alloc (.cells x.cells 43 (0, 0))) := ⟨hB0.low, hB0.box, hB0.ok hx⟩
  have hbE : (E = 0 ∧ b = true) ∨ (E = 130 ∧ b = false) := by
    rw [hE, hbm]
    cases h : mayE x.pl with
    | true => exact .inl ⟨errE_yes h, rfl⟩
    | false => exact .inr ⟨errE_no h, rfl⟩
  have hch : ∀ W (so : Option Addr) (n : Nat) (c : Nat) (l : List UInt8), BytsAt W so n l → (convert 40 9 (.slice so n c)).run Tryz.prog W = .ok (.string (ofL l)) W := fun W so n c l h => conv_byts h c
  obtain ⟨⟨kind, epoch, tick, client, seq, job, attempt, node, how⟩, so, m, cp, sps⟩ := x
  have hcl := eclient_any kind
  have hrc := rclient_any kind
  obtain ⟨q, hq⟩ : ∃ q, q = clientK kind := ⟨_, rfl⟩
  rw [← hq] at hcl hrc
  replace hB0 := Lib.hid hB0; replace hc1 := Lib.hid hc1; replace hlo := Lib.hid hlo; replace hmy := Lib.hid hmy; replace hck := Lib.hid hck; replace hpu := Lib.hid hpu; replace hrp := Lib.hid hrp; replace hX0 := Lib.hid hX0; replace hx := Lib.hid hx; replace hm := Lib.hid hm; replace ht := Lib.hid ht; replace hb := Lib.hid hb; replace hso := Lib.hid hso; replace hbm := Lib.hid hbm; replace hE := Lib.hid hE; replace hP := Lib.hid hP; replace hch := Lib.hid hch; replace hcl := Lib.hid hcl; replace hrc := Lib.hid hrc; replace hq := Lib.hid hq
  go_enter Tryz.func4, Tryz.ntmps4
  go_wp2_with fail
  refine hc1.out.mono ?_
  rintro e w1 ⟨rfl, hb1⟩
  have hX1 := hX0.out.go hb1
  have c0 : w1.cell? ⟨w.heap.size, 0, none⟩ = some (.int .i64 kind) := blk_cell hX1.box 0
  have c1 : w1.cell? ⟨w.heap.size, 1, none⟩ = some (.int .i64 epoch) := blk_cell hX1.box 1
  have c2 : w1.cell? ⟨w.heap.size, 2, none⟩ = some (.int .i64 tick) := blk_cell hX1.box 2
  have c3 : w1.cell? ⟨w.heap.size, 3, none⟩ = some (.int .i64 client) := blk_cell hX1.box 3
  have c4 : w1.cell? ⟨w.heap.size, 4, none⟩ = some (.int .i64 seq) := blk_cell hX1.box 4
  have c5 : w1.cell? ⟨w.heap.size, 5, none⟩ = some (.int .i64 job) := blk_cell hX1.box 5
  have c6 : w1.cell? ⟨w.heap.size, 6, none⟩ = some (.int .i64 attempt) := blk_cell hX1.box 6
  have c7 : w1.cell? ⟨w.heap.size, 7, none⟩ = some (.int .i64 node) := blk_cell hX1.box 7
  have c8 : w1.cell? ⟨w.heap.size, 8, none⟩ = some (.int .i64 how) := blk_cell hX1.box 8
  have c9 : w1.cell? ⟨w.heap.size, 9, none⟩ = some (.slice so m cp) := blk_cell hX1.box 9
  replace hb1 := Lib.hid hb1; replace hX1 := Lib.hid hX1
  go_wp2_with fail
  refine (hlo.out _ hX1.out).mono ?_
  rintro e w2 ⟨⟨lg, rfl⟩, hb2⟩
  have hX2 := hX1.out.go hb2
  clear c0 c1 c2 c3 c4 c5 c6 c7 c8 c9
  replace hb2 := Lib.hid hb2; replace hX2 := Lib.hid hX2
  cases lg with
  | true =>
    go_wp2
    go_ret
    exact ⟨rfl, hX2.out.low⟩
  | false =>
  by_cases hbig : 10000 < hn
  · have d1 : decide ((10000 : Int) < (hn : Int)) = true := decide_eq_true (by omega)
    have d1' : decide (10000 < hn) = true := decide_eq_true hbig
    go_wp2
    go_ret
    exact ⟨rfl, hX2.out.low⟩
  have d1 : decide ((10000 : Int) < (hn : Int)) = false := decide_eq_false (by omega)
  have d1' : decide (10000 < hn) = false := decide_eq_false hbig
  have c0 : w2.cell? ⟨w.heap.size, 0, none⟩ = some (.int .i64 kind) := blk_cell hX2.out.box 0
  have c1 : w2.cell? ⟨w.heap.size, 1, none⟩ = some (.int .i64 epoch) := blk_cell hX2.out.box 1
  have c2 : w2.cell? ⟨w.heap.size, 2, none⟩ = some (.int .i64 tick) := blk_cell hX2.out.box 2
  have c3 : w2.cell? ⟨w.heap.size, 3, none⟩ = some (.int .i64 client) := blk_cell hX2.out.box 3
  have c4 : w2.cell? ⟨w.heap.size, 4, none⟩ = some (.int .i64 seq) := blk_cell hX2.out.box 4
  have c5 : w2.cell? ⟨w.heap.size, 5, none⟩ = some (.int .i64 job) := blk_cell hX2.out.box 5
  have c6 : w2.cell? ⟨w.heap.size, 6, none⟩ = some (.int .i64 attempt) := blk_cell hX2.out.box 6
  have c7 : w2.cell? ⟨w.heap.size, 7, none⟩ = some (.int .i64 node) := blk_cell hX2.out.box 7
  have c8 : w2.cell? ⟨w.heap.size, 8, none⟩ = some (.int .i64 how) := blk_cell hX2.out.box 8
  have c9 : w2.cell? ⟨w.heap.size, 9, none⟩ = some (.slice so m cp) := blk_cell hX2.out.box 9
  go_wp2_with fail
  refine (hmy.out _ hX2.out).mono ?_
  rintro e w3 ⟨rfl, hb3⟩
  have hX3 := hX2.out.go hb3
  clear c0 c1 c2 c3 c4 c5 c6 c7 c8 c9
  have c0 : w3.cell? ⟨w.heap.size, 0, none⟩ = some (.int .i64 kind) := blk_cell hX3.box 0
  have c1 : w3.cell? ⟨w.heap.size, 1, none⟩ = some (.int .i64 epoch) := blk_cell hX3.box 1
  have c2 : w3.cell? ⟨w.heap.size, 2, none⟩ = some (.int .i64 tick) := blk_cell hX3.box 2
  have c3 : w3.cell? ⟨w.heap.size, 3, none⟩ = some (.int .i64 client) := blk_cell hX3.box 3
  have c4 : w3.cell? ⟨w.heap.size, 4, none⟩ = some (.int .i64 seq) := blk_cell hX3.box 4
  have c5 : w3.cell? ⟨w.heap.size, 5, none⟩ = some (.int .i64 job) := blk_cell hX3.box 5
  have c6 : w3.cell? ⟨w.heap.size, 6, none⟩ = some (.int .i64 attempt) := blk_cell hX3.box 6
  have c7 : w3.cell? ⟨w.heap.size, 7, none⟩ = some (.int .i64 node) := blk_cell hX3.box 7
  have c8 : w3.cell? ⟨w.heap.size, 8, none⟩ = some (.int .i64 how) := blk_cell hX3.box 8
  have c9 : w3.cell? ⟨w.heap.size, 9, none⟩ = some (.slice so m cp) := blk_cell hX3.box 9
  clear d1 d1'
  replace hb3 := Lib.hid hb3; replace hX3 := Lib.hid hX3
  go_wp2_with fail
  refine (hck.out _ hX3.out).mono ?_
  rintro e w4 ⟨rfl, hb4⟩
  have hX4 := hX3.out.go hb4
  clear c0 c1 c2 c3 c4 c5 c6 c7 c8 c9
  have c0 : w4.cell? ⟨w.heap.size, 0, none⟩ = some (.int .i64 kind) := blk_cell hX4.box 0
  have c1 : w4.cell? ⟨w.heap.size, 1, none⟩ = some (.int .i64 epoch) := blk_cell hX4.box 1
  have c2 : w4.cell? ⟨w.heap.size, 2, none⟩ = some (.int .i64 tick) := blk_cell hX4.box 2
  have c3 : w4.cell? ⟨w.heap.size, 3, none⟩ = some (.int .i64 client) := blk_cell hX4.box 3
  have c4 : w4.cell? ⟨w.heap.size, 4, none⟩ = some (.int .i64 seq) := blk_cell hX4.box 4
  have c5 : w4.cell? ⟨w.heap.size, 5, none⟩ = some (.int .i64 job) := blk_cell hX4.box 5
  have c6 : w4.cell? ⟨w.heap.size, 6, none⟩ = some (.int .i64 attempt) := blk_cell hX4.box 6
  have c7 : w4.cell? ⟨w.heap.size, 7, none⟩ = some (.int .i64 node) := blk_cell hX4.box 7
  have c8 : w4.cell? ⟨w.heap.size, 8, none⟩ = some (.int .i64 how) := blk_cell hX4.box 8
  have c9 : w4.cell? ⟨w.heap.size, 9, none⟩ = some (.slice so m cp) := blk_cell hX4.box 9
  have hrest : ∀ wr, EoW w w.heap.size ⟨⟨kind, epoch, tick, client, seq, job, attempt, node, how⟩, so, m, cp, sps⟩ wr → EoW w w.heap.size ⟨⟨kind, epoch, tick, client, seq, job, attempt, node, how⟩, so, m, cp, sps⟩ wr := fun wr h => h
  replace hb4 := Lib.hid hb4; replace hX4 := Lib.hid hX4; replace hrest := Lib.hid hrest
  rcases hbE with ⟨rfl, rfl⟩ | ⟨rfl, rfl⟩
  · go_wp2_with fail
    refine (hck.out _ hX4.out).mono ?_
    rintro e w5 ⟨rfl, hb5⟩
    have hX5 := hX4.out.go hb5
    clear c0 c1 c2 c3 c4 c5 c6 c7 c8 c9
    replace hb5 := Lib.hid hb5; replace hX5 := Lib.hid hX5
    go_upto_region 10 with fail
    rename World => wo
    have hXc := hX5.out.go (Below.refl _ _).drew
    have hH := hch.out _ _ _ hc _ (hb.out.low hX5.out.low)
    have hHd := hch.out _ _ _ hc _ (hb.out.low hXc.low)
    have hEq : ((ofL (l ++ P)).toList == (ofL l ++ ofL P).toList) = true := str_eq (by rw [ofL_app])
    obtain ⟨LL, hLL⟩ : ∃ LL, LL = ofL l := ⟨_, rfl⟩
    obtain ⟨PP, hPP⟩ : ∃ PP, PP = ofL P := ⟨_, rfl⟩
    obtain ⟨AA, hAA⟩ : ∃ AA, AA = ofL (l ++ P) := ⟨_, rfl⟩
    have hLs : LL.size = hn := by rw [hLL, ofL_size, hb.out.len]
    rw [← hLL, ← hPP, ← hAA] at hEq
    rw [← hLL] at hH hHd
    have hHH : ∀ W, EoW w w.heap.size ⟨⟨kind, epoch, tick, client, seq, job, attempt, node, how⟩, so, m, cp, sps⟩ W → (convert 40 9 (.slice ho hn hc)).run Tryz.prog W = .ok (.string LL) W := fun W h => by rw [hLL]; exact hch.out _ _ _ hc _ (hb.out.low h.low)
    have hA : ∀ W (so : Option Addr) (c : Nat), BytsAt W so (hn + P.length) (l ++ P) → (convert 40 9 (.slice so (hn + P.length) c)).run Tryz.prog W = .ok (.string AA) W := fun W so c h => by rw [hAA]; exact hch.out _ _ _ c _ h
    have hR : ∀ W (so : Option Addr) (c : Nat), BytsAt W so P.length P → (convert 40 9 (.slice so P.length c)).run Tryz.prog W = .ok (.string PP) W := fun W so c h => by rw [hPP]; exact hch.out _ _ _ c _ h
    have hp15 := hpu.out (by omega)
    have hPl : P.length ≤ 100000 := by rw [hP.out]; exact putB_len hx.out.rng
    have hPs : PP.size = P.length := by rw [hPP, ofL_size]
    have hu : ¬ 9223372036854775807 < LL.size + PP.size := by omega
    have hS : ∀ W', EoW w w.heap.size ⟨⟨kind, epoch, tick, client, seq, job, attempt, node, how⟩, so, m, cp, sps⟩ W' → W'.cell? ⟨w.heap.size, 0, none⟩ = some (.int .i64 kind) ∧ W'.cell? ⟨w.heap.size, 1, none⟩ = some (.int .i64 epoch) ∧ W'.cell? ⟨w.heap.size, 2, none⟩ = some (.int .i64 tick) ∧ W'.cell? ⟨w.heap.size, 3, none⟩ = some (.int .i64 client) ∧ W'.cell? ⟨w.heap.size, 4, none⟩ = some (.int .i64 seq) ∧ W'.cell? ⟨w.heap.size, 5, none⟩ = some (.int .i64 job) ∧ W'.cell? ⟨w.heap.size, 6, none⟩ = some (.int .i64 attempt) ∧ W'.cell? ⟨w.heap.size, 7, none⟩ = some (.int .i64 node) ∧ W'.cell? ⟨w.heap.size, 8, none⟩ = some (.int .i64 how) ∧ W'.cell? ⟨w.heap.size, 9, none⟩ = some (.slice so m cp) ∧ (convert 40 9 (.slice ho hn hc)).run Tryz.prog W' = .ok (.string LL) W' := fun W' h => ⟨blk_cell h.box 0, blk_cell h.box 1, blk_cell h.box 2, blk_cell h.box 3, blk_cell h.box 4, blk_cell h.box 5, blk_cell h.box 6, blk_cell h.box 7, blk_cell h.box 8, blk_cell h.box 9, hHH W' h⟩
    clear hH hHd
    replace hS := Lib.hid hS; replace hLL := Lib.hid hLL; replace hPP := Lib.hid hPP; replace hAA := Lib.hid hAA; replace hHH := Lib.hid hHH; replace hA := Lib.hid hA; replace hR := Lib.hid hR; replace hp15 := Lib.hid hp15; replace hXc := Lib.hid hXc; replace hPs := Lib.hid hPs; replace hLs := Lib.hid hLs
    go_region_held (fun W' => W'.cell? ⟨w.heap.size, 0, none⟩ = some (.int .i64 kind) ∧ W'.cell? ⟨w.heap.size, 1, none⟩ = some (.int .i64 epoch) ∧ W'.cell? ⟨w.heap.size, 2, none⟩ = some (.int .i64 tick) ∧ W'.cell? ⟨w.heap.size, 3, none⟩ = some (.int .i64 client) ∧ W'.cell? ⟨w.heap.size, 4, none⟩ = some (.int .i64 seq) ∧ W'.cell? ⟨w.heap.size, 5, none⟩ = some (.int .i64 job) ∧ W'.cell? ⟨w.heap.size, 6, none⟩ = some (.int .i64 attempt) ∧ W'.cell? ⟨w.heap.size, 7, none⟩ = some (.int .i64 node) ∧ W'.cell? ⟨w.heap.size, 8, none⟩ = some (.int .i64 how) ∧ W'.cell? ⟨w.heap.size, 9, none⟩ = some (.slice so m cp) ∧ (convert 40 9 (.slice ho hn hc)).run Tryz.prog W' = .ok (.string LL) W')
      (first
        | with_reducible exact hS.out _ hXc.out)
      (first
        | (go_at_call 15
           (with_reducible refine (hp15.out _ hXc.out).mono ?_)
           rintro en wz ⟨⟨so15, c15, rfl, hy15⟩, hbz⟩
           replace hXc := Lib.hid (hXc.out.go hbz)
           have hcA := hA.out _ _ c15 hy15
           replace hy15 := Lib.hid hy15
           try replace hy16 := Lib.hid (hy16.out.low hbz)
           try have hcR := hR.out _ _ c16 hy16.out
           clear hbz)
        | (go_at_call 16
           (with_reducible refine (hrp.out _ hXc.out).mono ?_)
           rintro en wz ⟨⟨so16, c16, rfl, hy16⟩, hbz⟩
           replace hXc := Lib.hid (hXc.out.go hbz)
           have hcR := hR.out _ _ c16 hy16
           replace hy16 := Lib.hid hy16
           try replace hy15 := Lib.hid (hy15.out.low hbz)
           try have hcA := hA.out _ _ c15 hy15.out
           clear hbz)
        | (go_at_call 17
           (with_reducible refine (hcl.out _).mono ?_)
           rintro en wz ⟨rfl, rfl⟩)
        | (go_at_call 18
           (with_reducible refine (hrc.out _).mono ?_)
           rintro en wz ⟨rfl, rfl⟩))
    all_goals
      go_wp2_with fail
      go_ret
      exact ⟨rfl, hXc.out.low⟩
  · go_wp2_with fail
    refine (hck.out _ hX4.out).mono ?_
    rintro e w5 ⟨rfl, hb5⟩
    have hX5 := hX4.out.go hb5
    clear c0 c1 c2 c3 c4 c5 c6 c7 c8 c9
    have c0 : w5.cell? ⟨w.heap.size, 0, none⟩ = some (.int .i64 kind) := blk_cell hX5.box 0
    have c1 : w5.cell? ⟨w.heap.size, 1, none⟩ = some (.int .i64 epoch) := blk_cell hX5.box 1
    have c2 : w5.cell? ⟨w.heap.size, 2, none⟩ = some (.int .i64 tick) := blk_cell hX5.box 2
    have c3 : w5.cell? ⟨w.heap.size, 3, none⟩ = some (.int .i64 client) := blk_cell hX5.box 3
    have c4 : w5.cell? ⟨w.heap.size, 4, none⟩ = some (.int .i64 seq) := blk_cell hX5.box 4
    have c5 : w5.cell? ⟨w.heap.size, 5, none⟩ = some (.int .i64 job) := blk_cell hX5.box 5
    have c6 : w5.cell? ⟨w.heap.size, 6, none⟩ = some (.int .i64 attempt) := blk_cell hX5.box 6
    have c7 : w5.cell? ⟨w.heap.size, 7, none⟩ = some (.int .i64 node) := blk_cell hX5.box 7
    have c8 : w5.cell? ⟨w.heap.size, 8, none⟩ = some (.int .i64 how) := blk_cell hX5.box 8
    have c9 : w5.cell? ⟨w.heap.size, 9, none⟩ = some (.slice so m cp) := blk_cell hX5.box 9
    replace hb5 := Lib.hid hb5; replace hX5 := Lib.hid hX5
    go_wp2_with fail
    refine (hck.out _ hX5.out).mono ?_
    rintro e w6 ⟨rfl, hb6⟩
    have hX6 := hX5.out.go hb6
    clear c0 c1 c2 c3 c4 c5 c6 c7 c8 c9
    replace hb6 := Lib.hid hb6; replace hX6 := Lib.hid hX6
    go_upto_region 10 with fail
    rename World => wo
    have hXc := hX6.out.go (Below.refl _ _).drew
    have hH := hch.out _ _ _ hc _ (hb.out.low hX6.out.low)
    have hHd := hch.out _ _ _ hc _ (hb.out.low hXc.low)
    have hEq : ((ofL (l ++ P)).toList == (ofL l ++ ofL P).toList) = true := str_eq (by rw [ofL_app])
    obtain ⟨LL, hLL⟩ : ∃ LL, LL = ofL l := ⟨_, rfl⟩
    obtain ⟨PP, hPP⟩ : ∃ PP, PP = ofL P := ⟨_, rfl⟩
    obtain ⟨AA, hAA⟩ : ∃ AA, AA = ofL (l ++ P) := ⟨_, rfl⟩
    have hLs : LL.size = hn := by rw [hLL, ofL_size, hb.out.len]
    rw [← hLL, ← hPP, ← hAA] at hEq
    rw [← hLL] at hH hHd
    have hHH : ∀ W, EoW w w.heap.size ⟨⟨kind, epoch, tick, client, seq, job, attempt, node, how⟩, so, m, cp, sps⟩ W → (convert 40 9 (.slice ho hn hc)).run Tryz.prog W = .ok (.string LL) W := fun W h => by rw [hLL]; exact hch.out _ _ _ hc _ (hb.out.low h.low)
    have hA : ∀ W (so : Option Addr) (c : Nat), BytsAt W so (hn + P.length) (l ++ P) → (convert 40 9 (.slice so (hn + P.length) c)).run Tryz.prog W = .ok (.string AA) W := fun W so c h => by rw [hAA]; exact hch.out _ _ _ c _ h
    have hR : ∀ W (so : Option Addr) (c : Nat), BytsAt W so P.length P → (convert 40 9 (.slice so P.length c)).run Tryz.prog W = .ok (.string PP) W := fun W so c h => by rw [hPP]; exact hch.out _ _ _ c _ h
    have hp15 := hpu.out (by omega)
    have hPl : P.length ≤ 100000 := by rw [hP.out]; exact putB_len hx.out.rng
    have hPs : PP.size = P.length := by rw [hPP, ofL_size]
    have hu : ¬ 9223372036854775807 < LL.size + PP.size := by omega
    have hS : ∀ W', EoW w w.heap.size ⟨⟨kind, epoch, tick, client, seq, job, attempt, node, how⟩, so, m, cp, sps⟩ W' → W'.cell? ⟨w.heap.size, 0, none⟩ = some (.int .i64 kind) ∧ W'.cell? ⟨w.heap.size, 1, none⟩ = some (.int .i64 epoch) ∧ W'.cell? ⟨w.heap.size, 2, none⟩ = some (.int .i64 tick) ∧ W'.cell? ⟨w.heap.size, 3, none⟩ = some (.int .i64 client) ∧ W'.cell? ⟨w.heap.size, 4, none⟩ = some (.int .i64 seq) ∧ W'.cell? ⟨w.heap.size, 5, none⟩ = some (.int .i64 job) ∧ W'.cell? ⟨w.heap.size, 6, none⟩ = some (.int .i64 attempt) ∧ W'.cell? ⟨w.heap.size, 7, none⟩ = some (.int .i64 node) ∧ W'.cell? ⟨w.heap.size, 8, none⟩ = some (.int .i64 how) ∧ W'.cell? ⟨w.heap.size, 9, none⟩ = some (.slice so m cp) ∧ (convert 40 9 (.slice ho hn hc)).run Tryz.prog W' = .ok (.string LL) W' := fun W' h => ⟨blk_cell h.box 0, blk_cell h.box 1, blk_cell h.box 2, blk_cell h.box 3, blk_cell h.box 4, blk_cell h.box 5, blk_cell h.box 6, blk_cell h.box 7, blk_cell h.box 8, blk_cell h.box 9, hHH W' h⟩
    clear hH hHd
    replace hS := Lib.hid hS; replace hLL := Lib.hid hLL; replace hPP := Lib.hid hPP; replace hAA := Lib.hid hAA; replace hHH := Lib.hid hHH; replace hA := Lib.hid hA; replace hR := Lib.hid hR; replace hp15 := Lib.hid hp15; replace hXc := Lib.hid hXc; replace hPs := Lib.hid hPs; replace hLs := Lib.hid hLs
    go_region_held (fun W' => W'.cell? ⟨w.heap.size, 0, none⟩ = some (.int .i64 kind) ∧ W'.cell? ⟨w.heap.size, 1, none⟩ = some (.int .i64 epoch) ∧ W'.cell? ⟨w.heap.size, 2, none⟩ = some (.int .i64 tick) ∧ W'.cell? ⟨w.heap.size, 3, none⟩ = some (.int .i64 client) ∧ W'.cell? ⟨w.heap.size, 4, none⟩ = some (.int .i64 seq) ∧ W'.cell? ⟨w.heap.size, 5, none⟩ = some (.int .i64 job) ∧ W'.cell? ⟨w.heap.size, 6, none⟩ = some (.int .i64 attempt) ∧ W'.cell? ⟨w.heap.size, 7, none⟩ = some (.int .i64 node) ∧ W'.cell? ⟨w.heap.size, 8, none⟩ = some (.int .i64 how) ∧ W'.cell? ⟨w.heap.size, 9, none⟩ = some (.slice so m cp) ∧ (convert 40 9 (.slice ho hn hc)).run Tryz.prog W' = .ok (.string LL) W')
      (first
        | with_reducible exact hS.out _ hXc.out)
      (first
        | (go_at_call 15
           (with_reducible refine (hp15.out _ hXc.out).mono ?_)
           rintro en wz ⟨⟨so15, c15, rfl, hy15⟩, hbz⟩
           replace hXc := Lib.hid (hXc.out.go hbz)
           have hcA := hA.out _ _ c15 hy15
           replace hy15 := Lib.hid hy15
           try replace hy16 := Lib.hid (hy16.out.low hbz)
           try have hcR := hR.out _ _ c16 hy16.out
           clear hbz)
        | (go_at_call 16
           (with_reducible refine (hrp.out _ hXc.out).mono ?_)
           rintro en wz ⟨⟨so16, c16, rfl, hy16⟩, hbz⟩
           replace hXc := Lib.hid (hXc.out.go hbz)
           have hcR := hR.out _ _ c16 hy16
           replace hy16 := Lib.hid hy16
           try replace hy15 := Lib.hid (hy15.out.low hbz)
           try have hcA := hA.out _ _ c15 hy15.out
           clear hbz)
        | (go_at_call 17
           (with_reducible refine (hcl.out _).mono ?_)
           rintro en wz ⟨rfl, rfl⟩)
        | (go_at_call 18
           (with_reducible refine (hrc.out _).mono ?_)
           rintro en wz ⟨rfl, rfl⟩))
    all_goals
      go_wp2_with fail
      go_ret
      exact ⟨rfl, hXc.out.low⟩
end Go.Proofs.YteoihdkaoipocaaGreatDoor

namespace Go.Proofs.YteoihdkaoipocaaGreatDoor
open Go.ChangeShapes Go.WideShapes Go.ChangeAt Go.RowKit Go.ChangeMaps

set_option maxRecDepth 100000 in
theorem eventPuts_lifted (os : Os) (started : os.Started) (H : Type) (enc : TypeId × Value → H) :
    ReturnsInHanded {} Tryz.checked os 4 .any (fun w args => (Rows.eventPutsSpec.pre enc Tryz.prog Tryz.f4 Rows.eventPutsRow.domain false w args ∧ laidMetH Tryz.prog Rows.eventPutsRow.laid w) ∧ sizedMet enc Tryz.prog Tryz.f4 (OpenSpec.ofChange Rows.eventPutsSpec) false w args)
      (Rows.eventPutsSpec.post enc Tryz.prog Tryz.f4 false true false false) := by
  refine returns_laid (C := Tryz.checked) (X := fun w _ => laidMetH Tryz.prog Rows.eventPutsRow.laid w) (fun _ _ _ hh h => h.of_heap hh) own started (by kernel_rfl) Tryz.func4
    (ChangeSpec.witness_shaped (enc := enc) (C := Tryz.checked) (os := os) (X := fun w _ => laidMetH Tryz.prog Rows.eventPutsRow.laid w) false (World.laidAll Tryz.prog os Rows.eventPutsRow.laid) #[.slice none 0 0, .agg #[.int .i64 0, .int .i64 0, .int .i64 0, .int .i64 0, .int .i64 0, .int .i64 0, .int .i64 0, .int .i64 0, .int .i64 0, .slice none 0 0]] 8 (World.laidAll_os _ _ _)
      (World.shaped_of_ZipB (by kernel_rfl) (by kernel_rfl)) (by kernel_rfl) (by kernel_rfl) (by kernel_rfl)
      (by rw [MakeChecks.laidMetH_plain _ _ _ (by kernel_rfl)]; exact laidMet_laidAll _ (by kernel_rfl) (by kernel_rfl))) ?_
  intro W base args ds gs before hval0 hW hc hL hsh
  have hval : ∀ (j : Nat) t v, Tryz.f4.params[j]? = some t → args[j]? = some v → Value.okWide Tryz.prog W .any base t v := hval0
  have hW' := hW
  obtain ⟨p, q, hA0, hV, rfl, _, _⟩ := hW
  have hA : DataW.TrodAll enc Tryz.prog W 0 (fun _ => true) true Tryz.f4.params.toList args.toList ds p := hA0
  rw [Tryz.params4] at hA hval
  obtain ⟨v0, v1, d0, d1, p0, p1, rfl, rfl, rfl, h0, h1⟩ := trodAll_two hA
  obtain ⟨rfl, rfl⟩ := trodVars_none hV
  obtain ⟨ao0, n0, c0, l0, rfl, hx0, hnc0, hso0⟩ := open_bytes (hval 0 40 v0 rfl rfl) h0
  obtain ⟨x1, rfl, hx1⟩ := open_event (hval 1 43 v1 rfl rfl) h1
  clear hA0 hval0
  refine (eputs_any ao0 n0 c0 l0 x1 W hx0 hso0 hx1 (mx_shaped hsh) (tb_of_laid (fun w => MakeChecks.laidMetH_plain _ _ w (by kernel_rfl)) hL)).mono fun e W' ⟨he, hw⟩ => ?_
  subst he
  refine ⟨_, rfl, post_of_below hW' rfl (fun _ _ _ => ?_) rfl rfl hw ?_⟩
  · have hrt : Tryz.f4.resultTypes = #[4] := by kernel_rfl
    rw [hrt]
    exact trodAll_mk1 ⟨1, by simp [DataW.trod, Value.cells, Tryz.underlying4]⟩
  · rw [Tryz.params4]
    intro t ht
    have hm : t ∈ [40, 43] := by simpa using ht
    have hall : ([40, 43].all fun u => Tryz.prog.readableRec u && decide (u < Tryz.prog.types.size)) = true := by kernel_rfl
    have := List.all_eq_true.1 hall t hm
    rw [Bool.and_eq_true] at this
    exact ⟨this.1, of_decide_eq_true this.2⟩
theorem eventPuts_row : Rows.EventPutsSaid :=
  OpenClaim.holds_of_wide 4 Tryz.f4 rfl rfl rfl rfl rfl rfl rfl ⟨rfl, rfl, rfl, rfl, rfl⟩ rfl rfl rfl rfl rfl (by kernel_rfl) Tryz.func4 (by kernel_rfl)
    (of_decide_eq_true (by kernel_rfl)) (by unfold Func.isWrapper; first | (rw [if_pos (by decide +kernel)]; kernel_rfl) | (rw [if_neg (by decide +kernel)]; exact ⟨rfl, rfl⟩))
    (fun os started H enc _ => eventPuts_lifted os started H enc)
theorem eventPuts_holds : Rows.EventPutsCardSaid :=
  Claim7.holds_tied_plain_at .later [] [.data, .data, .data, .data, .pinned] true (true, "a8c09d38ae34f031165ba41639bffd1201e1848b2ee5c077e12c68de6cfd4722") false eventPuts_row (fun _ h => by cases h) (by kernel_rfl) (fun _ h => by cases h) eventPuts_row_tie rfl ⟨rfl, rfl⟩ (by kernel_rfl) rfl
    (fun f fn hf hfn => by
      obtain rfl : f = 4 := Option.some.inj ((show Tryz.prog.funcNamed "corvee/corveelaw13.EventPuts" = some 4 by kernel_rfl).symm.trans hf) |>.symm
      obtain rfl : fn = Tryz.f4 := (Option.some.inj (Tryz.func4.symm.trans hfn)).symm
      exact ⟨by kernel_rfl, fun j t ht => by
        rw [Tryz.params4] at ht
        have hm : t ∈ [40, 43] := by simpa using Array.mem_of_getElem? ht
        have hall : ([40, 43].all fun u => !Tryz.prog.wantsStandIn u) = true := by kernel_rfl
        exact (show Tryz.prog.wantsStandIn t = false by simpa using List.all_eq_true.1 hall t hm)⟩)
    (by kernel_rfl)
end Go.Proofs.YteoihdkaoipocaaGreatDoor
