/- Any bytes are taken as the event that the document says, or refused with its error: for every input the law returns true, and each argument reads behind the call as it read before. The listed variables are laid and tied. No further condition. -/
import Derived.Test.YteoihdkaoipocaaGreatDoorQa
import Derived.Test.YteoihdkaoipocaaGreatDoorRows
import Derived.Test.YteoihdkaoipocaaGreatDoorTie
import Derived.Test.YteoihdkaoipocaaGreatDoorCards
import Derived.ProofKit
import Derived.OpenShut
import Derived.LaidMore
import Derived.Lay
import Derived.SevenTiedAt
import Derived.Stop.Joined
import Derived.Shelf.Vars
import Derived.Stop.LaidErr
import Derived.Lib.LaidTab
import Derived.Test.YteoihdkaoipocaaGreatDoorQd
import Derived.Deep.Slices
import Derived.Lib.SmallJoins
import Derived.Test.YteoihdkaoipocaaGreatDoorQb
import Derived.Test.YteoihdkaoipocaaGreatDoorQh
import Derived.Test.YteoihdkaoipocaaGreatDoorQe
import Derived.Test.YteoihdkaoipocaaGreatDoorQf
import Derived.Deep.DeepCutAuto
import Derived.Deep.CutBlock
import Derived.Deep.RegionHeld3
/- What every row of this seat uses: the world's shape beside the laid variables; the variable MaxLen holds a number. -/
namespace Go.Proofs.YteoihdkaoipocaaGreatDoor
open Go.ChangeShapes Go.WideShapes Go.ChangeAt Go.RowKit

theorem own : ownKnob Tryz.prog.godebug = none := by kernel_rfl
theorem mx_shaped {W : World} (h : W.ShapedOpen Tryz.prog) : Mx W :=
  cell_of_shapedOpen_int (g := 0) (t := 3) (zero := #[.int .i64 0]) h (of_decide_eq_true (by kernel_rfl)) (by kernel_rfl) rfl (by kernel_rfl) (by kernel_rfl) Tryz.underlying3
variable {H : Type} {enc : TypeId × Value → H}
theorem returns_laid {a : Assume} {C : Checked} {os : Os} {f : FuncId} {fn : Func} {s : ChangeSpec} {conds : List PathCond} {apart fresh handsOn again : Bool} {X : World → Array Value → Prop}
    (hX : ∀ (w w' : World) (args : Array Value), w.heap = w'.heap → X w args → X w' args)
    (own : ownKnob C.prog.godebug = none) (started : os.Started) (noInit : C.prog.inits.idxOf? f = none) (hfn : C.prog.funcs[f]? = some fn)
    (witness : ∃ (w : World) (tape : Tape) (i : Input), w.os = os ∧ (w.forCall tape i).Shaped C.prog ∧ i.vars = [] ∧ Input.okWide C.prog (w.forCall tape i) .any w.heap.size f i ∧
      ((s.pre enc C.prog fn conds apart (w.forCall tape i).memory i.args ∧ X (w.forCall tape i).memory i.args) ∧ sizedMet enc C.prog fn (OpenSpec.ofChange s) apart (w.forCall tape i).memory i.args) ∧ a.holds C.prog (lone (Frame.enter C.prog f i.args .normal) [] (w.forCall tape i)))
    (contract : ∀ (W : World) (base : Nat) (args : Array Value) (ds gs : List (DataW H)) (before : List MemPlace),
      (∀ (j : Nat) t v, fn.params[j]? = some t → args[j]? = some v → Value.okWide C.prog W .any base t v) →
      DataW.Whole enc C.prog fn.params.toList s.vars apart W args.toList ds gs before →
      (DataW.weightsEach C.prog (fn.params.toList ++ s.plain.varTypes C.prog) (ds ++ gs)).all (· ≤ reachBytes) = true → X W args → W.ShapedOpen C.prog →
      Calls C.prog f args W fun e W' => ∃ v, e = .returned v ∧ s.post enc C.prog fn apart fresh handsOn again W args v W') :
    ReturnsInHanded a C os f .any (fun w args => (s.pre enc C.prog fn conds apart w args ∧ X w args) ∧ sizedMet enc C.prog fn (OpenSpec.ofChange s) apart w args) (s.post enc C.prog fn apart fresh handsOn again) := by
  refine returnsInHanded_of_calls own started noInit witness ?_
  intro w tape i _ hsh _ hok hpre hholds
  obtain ⟨_, _, _, fn', hfn', _, _, _, _, hval⟩ := hok
  have e : fn' = fn := Option.some.inj (hfn'.symm.trans hfn)
  subst e
  obtain ⟨⟨⟨ds, gs, before, hw, hc⟩, hx⟩, hz⟩ := hpre
  have hw' := DataW.Whole.of_heap (w' := w.forCall tape i) (by rfl) hw
  refine (contract (w.forCall tape i) w.heap.size i.args ds gs before hval hw' (hz.weights hw) (hX _ _ _ (by rfl) hx) hsh).mono fun e W' ⟨v, he, hp⟩ => ?_
  subst he
  exact ChangeSpec.post_blind hp
theorem laidOut : laidOutB Tryz.prog = true := by kernel_rfl
theorem trodAll_below {W W' : World} (hb : Below W.heap.size W W') : ∀ (ts : List TypeId) (vs : List Value) (ds : List (DataW H)) (ps : List MemPlace),
    DataW.TrodAll enc Tryz.prog W 0 (fun _ => true) true ts vs ds ps → (∀ x ∈ ps, x.block < W.heap.size) → (∀ t ∈ ts, Tryz.prog.readableRec t = true ∧ t < Tryz.prog.types.size) →
    DataW.TrodAll enc Tryz.prog W' 0 (fun b => decide (b < W.heap.size)) true ts vs ds ps
  | [], [], [], _, h, _, _ => h
  | [], _ :: _, _, _, h, _, _ => h.elim
  | [], [], _ :: _, _, h, _, _ => h.elim
  | _ :: _, [], _, _, h, _, _ => h.elim
  | _ :: _, _ :: _, [], _, h, _, _ => h.elim
  | t :: ts, v :: vs, d :: ds, ps, h, hlt, hr => by
    obtain ⟨p, q, h1, h2, rfl⟩ := h
    obtain ⟨r1, r2⟩ := hr t (by simp)
    exact ⟨p, q, Below.trod laidOut r1 r2 h1 hb (fun x hx => hlt x (by simp [hx])), trodAll_below hb ts vs ds q h2 (fun x hx => hlt x (by simp [hx])) (fun u hu => hr u (by simp [hu])), rfl⟩

theorem post_of_below {f : Func} {s : ChangeSpec} {apart fresh handsOn : Bool} {W W' : World} {args : Array Value} {v : Value} {ds gs : List (DataW H)} {before : List MemPlace}
    (hW : DataW.Whole enc Tryz.prog f.params.toList s.vars apart W args.toList ds gs before) (hs : s.vars = []) 
    (hres : ∀ (b : Nat) (sp : Nat → Bool) (hd : Bool), DataW.TrodAll enc Tryz.prog W' b sp hd f.resultTypes.toList (v.resultList f.resultTypes.size) (s.fn H (ds ++ gs)).results [])
    (hargs : (s.fn H (ds ++ gs)).args = ds) (hv : (s.fn H (ds ++ gs)).vars = []) (hb : Below W.heap.size W W')
    (hr : ∀ t ∈ f.params.toList, Tryz.prog.readableRec t = true ∧ t < Tryz.prog.types.size) :
    s.post enc Tryz.prog f apart fresh handsOn false W args v W' := by
  have hlt := hW.lt
  have hW' := hW
  obtain ⟨p, q, hA, hV, rfl, hfz, hnd⟩ := hW
  rw [hs] at hV
  obtain ⟨rfl, rfl⟩ := trodVars_none hV
  refine ⟨ds, [], p ++ [], [], p, [], hW', hres _ _ _, ?_, ?_, hb.frame _, fun h => by simp at h⟩
  · rw [hargs]
    exact trodAll_below hb _ _ _ _ hA (fun x hx => by simpa using hlt x (by simp [hx])) hr
  · rw [hv, hs]
    rfl
end Go.Proofs.YteoihdkaoipocaaGreatDoor

/- From a row's condition to the library's table of powers of ten. -/
namespace Go.Proofs.YteoihdkaoipocaaGreatDoor
open Go.RowKit

theorem pow_eq : (Rows.laid_internal_strconv_uint64pow10 : DataW Unit) = Lib.tabData .u64 Lib.pow10Tab := by kernel_rfl
theorem tb_of_laid {W : World} {a b : String × DataW Unit} {r : List (String × DataW Unit)} (hp : ∀ w, laidMetH Tryz.prog (a :: b :: ("internal/strconv.uint64pow10", Rows.laid_internal_strconv_uint64pow10) :: r) w = laidMet Tryz.prog (a :: b :: ("internal/strconv.uint64pow10", Rows.laid_internal_strconv_uint64pow10) :: r) w)
    (h : laidMetH Tryz.prog (a :: b :: ("internal/strconv.uint64pow10", Rows.laid_internal_strconv_uint64pow10) :: r) W) : Tb W := by
  rw [hp] at h
  have h2 := h.tail.tail
  rw [pow_eq] at h2
  exact Lib.tabBelow_of_tabIs (Lib.tabIs_of_head (g := 1) (t := 185) (e := 129) (n := 20) (by kernel_rfl) (by kernel_rfl) (by kernel_rfl) (by kernel_rfl) (by kernel_rfl) (by kernel_rfl) h2)
end Go.Proofs.YteoihdkaoipocaaGreatDoor

/- What an argument that is a row of nodes reads as, opened. Plain theorems: no condition. -/
namespace Go.Proofs.YteoihdkaoipocaaGreatDoor
open Go.ChangeShapes Go.WideShapes Go.ChangeAt Go.RowKit

theorem cel3 : Tryz.prog.cellsOf 3 = 1 := by kernel_rfl
theorem cel9 : Tryz.prog.cellsOf 9 = 1 := by kernel_rfl
theorem cel25 : Tryz.prog.cellsOf 23 = 4 := by kernel_rfl
theorem list4o {α : Type} {l : List α} (h : l.length = 4) : ∃ a b c d, l = [a, b, c, d] := by
  match l, h with
  | [a, b, c, d], _ => exact ⟨a, b, c, d, rfl⟩
theorem choose_belowo {α : Type} {n : Nat} {p : Nat → α → Prop} (z : α) (h : ∀ i, i < n → ∃ x, p i x) : ∃ f : Nat → α, ∀ i, i < n → p i (f i) :=
  ⟨fun i => if hi : i < n then (h i hi).choose else z, fun i hi => by simp only [hi, dif_pos]; exact (h i hi).choose_spec⟩
theorem add_plain_o (b off k : Nat) : (⟨b, off, none⟩ : Addr).add k = ⟨b, off + k, none⟩ := by unfold Addr.add; cases k <;> rfl

structure RowsO {α : Type} (cells : α → Array Value) (sz : Nat) (ok : World → α → Prop) (w : World) (so : Option Addr) (n : Nat) (xs : List α) : Prop where
  len : xs.length = n
  max : n ≤ 9223372036854775807
  cell : ∀ i x, xs[i]? = some x → ∃ b off, so = some ⟨b, off, none⟩ ∧ b < w.heap.size ∧ (∀ j, j < sz → w.cell? ⟨b, off + i * sz + j, none⟩ = (cells x)[j]?) ∧ ok w x
/-- a node of an argument -/
structure NdA (w : World) (x : Nde) : Prop where
  ok : x.ok w
  name : x.name.size ≤ maxLen
  parts : ∀ p, p ∈ x.parts → p.size ≤ maxLen
abbrev NdsAt (w : World) (so : Option Addr) (n : Nat) (xs : List Nde) : Prop := RowsO Nde.cells 6 NdA w so n xs
theorem NdsAt.low {w w' : World} {so : Option Addr} {n : Nat} {xs : List Nde} (h : NdsAt w so n xs) (hb : Below w.heap.size w w') : NdsAt w' so n xs :=
  ⟨h.len, h.max, fun i x hx => by
    obtain ⟨b, off, e, hlt, hc, ho⟩ := h.cell i x hx
    exact ⟨b, off, e, Nat.lt_of_lt_of_le hlt hb.size, fun j hj => (below_cell hb hlt).trans (hc j hj), ho.ok.low hb, ho.name, ho.parts⟩⟩

section
variable {H : Type} {enc : TypeId × Value → H} {w : World} {held : Bool} {fuel : Nat} {cs : List Value} {x : DataW H × List MemPlace}
theorem rowsO_of_trod {α : Type} (z : α) (cells : α → Array Value) (sz : Nat) (ok : World → α → Prop) {T E : TypeId} (hU : Tryz.prog.underlying T = some (.slice E)) (hc : Tryz.prog.cellsOf E = sz) (h0 : 0 < sz) (hsz : ∀ a, (cells a).size = sz)
    (hone : ∀ (fuel : Nat) (cs : List Value) (x : DataW H × List MemPlace), DataW.trod enc Tryz.prog w 0 (fun _ => true) held fuel E cs = some x → ∃ a, cs = (cells a).toList ∧ ok w a)
    {c : Value} (h : DataW.trod enc Tryz.prog w 0 (fun _ => true) held fuel T [c] = some x) : ∃ ao n cp xs, c = .slice ao n cp ∧ RowsO cells sz ok w ao n xs ∧ n ≤ cp := by
  rcases Go.Deep.open_slice hU h with ⟨hcs, _⟩ | ⟨a, len, cap, m, n, D, Pl, hcs, _, hl, hm, hmm, _, hi⟩
  · simp at hcs
    exact ⟨none, 0, 0, [], hcs, ⟨rfl, by omega, fun i x hx => by simp at hx⟩, Nat.le_refl _⟩
  · simp at hcs
    have mx : maxLen = 9223372036854775807 := by kernel_rfl
    have hmc : m = cap := by simpa using hmm
    have hc : ∀ i, i < len → ∃ x : α, ok w x ∧ ∀ j, j < sz → w.cell? (a.add (i * sz + j)) = (cells x)[j]? := fun i hil => by
      obtain ⟨cs', hc', ht⟩ := hi i (by omega)
      obtain ⟨x, rfl, ok⟩ := hone _ _ _ ht
      obtain ⟨_, _, hat⟩ := World.cells?_some hc'
      rw [hc] at hat
      exact ⟨x, ok, fun j hj => by rw [← Go.Deep.add_add, hat j hj]; simp⟩
    obtain ⟨f, hf2⟩ := choose_belowo z hc
    refine ⟨some a, len, cap, (List.range len).map f, hcs, ⟨by simp, by rw [mx] at hm; omega, fun i x hx => ?_⟩, hl⟩
    have hil : i < len := by
      have := (List.getElem?_eq_some_iff.1 hx).1
      simpa using this
    have hxe : x = f i := by
      rw [List.getElem?_map, List.getElem?_range hil] at hx
      simpa using hx.symm
    subst hxe
    have hz : ∀ i, i < len → (cells (f i))[0]? = some ((cells (f i))[0]'(by rw [hsz]; exact h0)) := fun i _ => by
      rw [Array.getElem?_eq_getElem]
    have h00 := (hf2 0 (by omega)).2 0 h0
    rw [hz 0 (by omega)] at h00
    obtain ⟨b, off, spot⟩ := a
    have hsp : spot = none := by simpa [Addr.add] using World.cell?_spot h00
    subst hsp
    have e : ∀ j, j < sz → w.cell? ⟨b, off + i * sz + j, none⟩ = (cells (f i))[j]? := fun j hj => by
      rw [← (hf2 i hil).2 j hj, add_plain_o, Nat.add_assoc]
    have e0 := e 0 h0
    rw [hz i hil] at e0
    exact ⟨b, off, rfl, World.block_lt_of_cell? w _ e0, e, (hf2 i hil).1⟩
theorem vecO_of_trod (h : DataW.trod enc Tryz.prog w 0 (fun _ => true) held fuel 23 cs = some x) : ∃ v : V4, cs = v.cells.toList := by
  obtain ⟨xs, m, _, _, hl, hn, hi⟩ := DataW.trod_array Tryz.underlying23 h
  rw [cel25] at hl
  obtain ⟨c0, c1, c2, c3, rfl⟩ := list4o hl
  have one : ∀ i, i < 4 → ∀ c : Value, (([c0, c1, c2, c3].drop (i * Tryz.prog.cellsOf 3)).take (Tryz.prog.cellsOf 3)) = [c] → ∃ n, c = .int .i64 n := fun i h4 c hc => by
    have h1 := hi i h4
    rw [hc, List.getElem?_eq_getElem (by omega)] at h1
    obtain ⟨n, e, _⟩ := DataW.trod_int Tryz.underlying3 h1
    exact ⟨n, by simpa using e⟩
  obtain ⟨n0, rfl⟩ := one 0 (by omega) c0 (by simp [cel3])
  obtain ⟨n1, rfl⟩ := one 1 (by omega) c1 (by simp [cel3])
  obtain ⟨n2, rfl⟩ := one 2 (by omega) c2 (by simp [cel3])
  obtain ⟨n3, rfl⟩ := one 3 (by omega) c3 (by simp [cel3])
  exact ⟨⟨n0, n1, n2, n3⟩, rfl⟩
end
section
variable {H : Type} {enc : TypeId × Value → H} {w : World} {held : Bool} {b0 : Nat} {r : Reach} {v : Value} {d : DataW H} {p : List MemPlace}
end
end Go.Proofs.YteoihdkaoipocaaGreatDoor

/- What an argument that is a spec reads as, opened. Plain theorems: no condition. -/
namespace Go.Proofs.YteoihdkaoipocaaGreatDoor
open Go.ChangeShapes Go.WideShapes Go.ChangeAt Go.RowKit

theorem wf_bd {n : Int} (h : (Lit.int .i64 n).wf = true) : -9223372036854775808 ≤ n ∧ n ≤ 9223372036854775807 := by
  simp [Lit.wf, IntKind.min, IntKind.max, IntKind.signed, IntKind.bits] at h
  omega
theorem cel4 : Tryz.prog.cellsOf 4 = 1 := by kernel_rfl
theorem cel26 : Tryz.prog.cellsOf 24 = 1 := by kernel_rfl
theorem cel28 : Tryz.prog.cellsOf 26 = 13 := by kernel_rfl
theorem list13o {α : Type} {l : List α} (h : l.length = 13) : ∃ a b c d e f g i j k m n o, l = [a, b, c, d, e, f, g, i, j, k, m, n, o] := by
  match l, h with
  | [a, b, c, d, e, f, g, i, j, k, m, n, o], _ => exact ⟨a, b, c, d, e, f, g, i, j, k, m, n, o, rfl⟩
section
variable {H : Type} {enc : TypeId × Value → H} {w : World} {held : Bool} {fuel : Nat} {cs : List Value} {x : DataW H × List MemPlace}
theorem intsO_of_trod {c : Value} (h : DataW.trod enc Tryz.prog w 0 (fun _ => true) held fuel 24 [c] = some x) : ∃ ao n cp xs, c = .slice ao n cp ∧ IntsAt w ao n xs ∧ n ≤ cp := by
  obtain ⟨ao, n, cp, xs, e, hr, hn⟩ := rowsO_of_trod (0 : Int) (fun s => #[.int .i64 s]) 1 (fun _ _ => True) Tryz.underlying24 cel3 (by decide) (fun _ => rfl) (fun fuel cs x h => by
    obtain ⟨s, e, _⟩ := DataW.trod_int Tryz.underlying3 h
    exact ⟨s, e, trivial⟩) h
  refine ⟨ao, n, cp, xs, e, ⟨hr.len, hr.max, fun i x hx => ?_⟩, hn⟩
  obtain ⟨b, off, e, hlt, hc, _⟩ := hr.cell i x hx
  have := hc 0 (by omega)
  rw [Nat.mul_one, Nat.add_zero] at this
  exact ⟨b, off, e, hlt, this⟩
set_option maxRecDepth 100000 in
theorem spec_of_trod (h : DataW.trod enc Tryz.prog w 0 (fun _ => true) held fuel 26 cs = some x) : ∃ a : Spv, cs = a.cells.toList ∧ a.ok w := by
  obtain ⟨xs, n, _, rfl, hl, hlen, hf⟩ := DataW.trod_struct Tryz.underlying26 h
  rw [cel28] at hl
  obtain ⟨c0, c1, c2, c3, c4, c5, c6, c7, c8, c9, c10, c11, c12, rfl⟩ := list13o hl
  match xs, hlen with
  | [y0, y1, y2, y3, y4, y5, y6, y7, y8, y9], _ =>
    have h0 := hf 0 _ rfl; have h1 := hf 1 _ rfl; have h2 := hf 2 _ rfl; have h3 := hf 3 _ rfl; have h4 := hf 4 _ rfl; have h5 := hf 5 _ rfl; have h6 := hf 6 _ rfl; have h7 := hf 7 _ rfl; have h8 := hf 8 _ rfl; have h9 := hf 9 _ rfl
    simp [cel9, cel25, cel3, cel4, cel26] at h0 h1 h2 h3 h4 h5 h6 h7 h8 h9
    obtain ⟨s0, e0, _, hs0⟩ := DataW.trod_string Tryz.underlying9 h0
    obtain ⟨s1, e1, _, hs1⟩ := DataW.trod_string Tryz.underlying9 h1
    obtain ⟨n2, e2, _⟩ := DataW.trod_int Tryz.underlying3 h2
    obtain ⟨v, ev⟩ := vecO_of_trod h3
    obtain ⟨n4, e4, _⟩ := DataW.trod_int Tryz.underlying3 h4
    obtain ⟨n5, e5, _⟩ := DataW.trod_int Tryz.underlying3 h5
    obtain ⟨n6, e6, _⟩ := DataW.trod_int Tryz.underlying3 h6
    obtain ⟨n7, e7, _⟩ := DataW.trod_int Tryz.underlying3 h7
    obtain ⟨b8, e8, _⟩ := DataW.trod_bool Tryz.underlying4 h8
    obtain ⟨so, m, cp, zs, rfl, hz, hmc⟩ := intsO_of_trod h9
    simp at e0 e1 e2 ev e4 e5 e6 e7 e8
    obtain ⟨rfl, rfl, rfl, rfl⟩ := ev
    subst e0 e1 e2 e4 e5 e6 e7 e8
    exact ⟨⟨⟨s0, s1, n2, v, n4, n5, n6, n7, b8, zs⟩, so, m, cp⟩, rfl, ⟨hz, hmc, hs0, hs1⟩⟩
end
section
variable {H : Type} {enc : TypeId × Value → H} {w : World} {held : Bool} {b0 : Nat} {r : Reach} {v : Value} {d : DataW H} {p : List MemPlace}
set_option maxRecDepth 100000 in
theorem open_spec (hv : Value.okWide Tryz.prog w r b0 26 v) (h : DataW.Trod enc Tryz.prog w 0 (fun _ => true) held 26 v d p) : ∃ a : Spv, v = a.val ∧ a.ok w := by
  obtain ⟨fuel, hf⟩ := h
  obtain ⟨cs, rfl⟩ : ∃ cs, v = .agg cs := by
    simp only [Value.okWide, Tryz.underlying26] at hv
    cases v <;> simp_all
  obtain ⟨a, e, hok⟩ := spec_of_trod hf
  refine ⟨a, ?_, hok⟩
  have e2 : cs = a.cells := Array.toList_inj.1 e
  rw [e2]
end
end Go.Proofs.YteoihdkaoipocaaGreatDoor

/- What arguments that are bytes, an event, a row of events read as, opened. Plain theorems: no condition. -/
namespace Go.Proofs.YteoihdkaoipocaaGreatDoor
open Go.ChangeShapes Go.WideShapes Go.ChangeAt Go.RowKit

theorem cel5 : Tryz.prog.cellsOf 5 = 1 := by kernel_rfl
theorem cel59 : Tryz.prog.cellsOf 41 = 1 := by kernel_rfl
theorem cel70 : Tryz.prog.cellsOf 43 = 10 := by kernel_rfl
theorem list10o {α : Type} {l : List α} (h : l.length = 10) : ∃ a b c d e f g i j k, l = [a, b, c, d, e, f, g, i, j, k] := by
  match l, h with
  | [a, b, c, d, e, f, g, i, j, k], _ => exact ⟨a, b, c, d, e, f, g, i, j, k, rfl⟩
theorem wf_u8 {n : Int} (h : (Lit.int .u8 n).wf = true) : 0 ≤ n ∧ n ≤ 255 := by
  simp [Lit.wf, IntKind.min, IntKind.max, IntKind.signed, IntKind.bits] at h
  omega
abbrev EvsAt (w : World) (so : Option Addr) (n : Nat) (xs : List Evv) : Prop := RowsO Evv.cells 10 Evv.ok w so n xs
theorem EvsAt.low {w w' : World} {so : Option Addr} {n : Nat} {xs : List Evv} (h : EvsAt w so n xs) (hb : Below w.heap.size w w') : EvsAt w' so n xs :=
  ⟨h.len, h.max, fun i x hx => by
    obtain ⟨b, off, e, hlt, hc, ho⟩ := h.cell i x hx
    exact ⟨b, off, e, Nat.lt_of_lt_of_le hlt hb.size, fun j hj => (below_cell hb hlt).trans (hc j hj), ho.low hb⟩⟩
section
variable {H : Type} {enc : TypeId × Value → H} {w : World} {held : Bool} {fuel : Nat} {cs : List Value} {x : DataW H × List MemPlace}
theorem nil_cap {T E : TypeId} (hU : Tryz.prog.underlying T = some (.slice E)) {so : Option Addr} {n c : Nat} (h : DataW.trod enc Tryz.prog w 0 (fun _ => true) held fuel T [.slice so n c] = some x) : so = none → n = 0 ∧ c = 0 := by
  intro e
  subst e
  rcases Go.Deep.open_slice hU h with ⟨hcs, _⟩ | ⟨a, len, cap, m, n', D, Pl, hcs, _⟩
  · simp at hcs
    exact hcs
  · simp at hcs
theorem bytesO_of_trod {c : Value} (h : DataW.trod enc Tryz.prog w 0 (fun _ => true) held fuel 40 [c] = some x) : ∃ ao n cp l, c = .slice ao n cp ∧ BytsAt w ao n l ∧ n ≤ cp ∧ (ao = none → n = 0 ∧ cp = 0) := by
  obtain ⟨ao, n, cp, xs, e, hr, hn⟩ := rowsO_of_trod (0 : UInt8) (fun s => #[.int .u8 s.toNat]) 1 (fun _ _ => True) Tryz.underlying40 cel5 (by decide) (fun _ => rfl) (fun fuel cs x h => by
    obtain ⟨s, e, _, hw⟩ := DataW.trod_int Tryz.underlying5 h
    have hb := wf_u8 hw
    refine ⟨UInt8.ofNat s.toNat, ?_, trivial⟩
    rw [e, UInt8.toNat_ofNat']
    have : ((s.toNat % 2 ^ 8 : Nat) : Int) = s := by
      have h8 : (2 : Nat) ^ 8 = 256 := by decide
      rw [h8]
      omega
    rw [this]) h
  rw [e] at h
  refine ⟨ao, n, cp, xs, e, ⟨hr.len, hr.max, fun i x hx => ?_⟩, hn, nil_cap Tryz.underlying40 h⟩
  obtain ⟨b, off, e, hlt, hc, _⟩ := hr.cell i x hx
  have := hc 0 (by omega)
  rw [Nat.mul_one, Nat.add_zero] at this
  exact ⟨b, off, e, hlt, this⟩
theorem spsO_of_trod {c : Value} (h : DataW.trod enc Tryz.prog w 0 (fun _ => true) held fuel 41 [c] = some x) : ∃ ao n cp xs, c = .slice ao n cp ∧ SpsAt w ao n xs ∧ n ≤ cp := by
  obtain ⟨ao, n, cp, xs, e, hr, hn⟩ := rowsO_of_trod Spv.zero Spv.cells 13 (fun w s => s.ok w) Tryz.underlying41 cel28 (by decide) (fun _ => rfl) (fun fuel cs x h => spec_of_trod h) h
  exact ⟨ao, n, cp, xs, e, ⟨hr.len, hr.max, hr.cell⟩, hn⟩
set_option maxRecDepth 100000 in
theorem event_of_trod (h : DataW.trod enc Tryz.prog w 0 (fun _ => true) held fuel 43 cs = some x) : ∃ a : Evv, cs = a.cells.toList ∧ a.ok w := by
  obtain ⟨xs, n, _, rfl, hl, hlen, hf⟩ := DataW.trod_struct Tryz.underlying43 h
  rw [cel70] at hl
  obtain ⟨c0, c1, c2, c3, c4, c5, c6, c7, c8, c9, rfl⟩ := list10o hl
  match xs, hlen with
  | [y0, y1, y2, y3, y4, y5, y6, y7, y8, y9], _ =>
    have h0 := hf 0 _ rfl; have h1 := hf 1 _ rfl; have h2 := hf 2 _ rfl; have h3 := hf 3 _ rfl; have h4 := hf 4 _ rfl; have h5 := hf 5 _ rfl; have h6 := hf 6 _ rfl; have h7 := hf 7 _ rfl; have h8 := hf 8 _ rfl; have h9 := hf 9 _ rfl
    simp [cel3, cel59] at h0 h1 h2 h3 h4 h5 h6 h7 h8 h9
    obtain ⟨n0, e0, _, w0⟩ := DataW.trod_int Tryz.underlying3 h0
    obtain ⟨n1, e1, _, w1⟩ := DataW.trod_int Tryz.underlying3 h1
    obtain ⟨n2, e2, _, w2⟩ := DataW.trod_int Tryz.underlying3 h2
    obtain ⟨n3, e3, _, w3⟩ := DataW.trod_int Tryz.underlying3 h3
    obtain ⟨n4, e4, _, w4⟩ := DataW.trod_int Tryz.underlying3 h4
    obtain ⟨n5, e5, _, w5⟩ := DataW.trod_int Tryz.underlying3 h5
    obtain ⟨n6, e6, _, w6⟩ := DataW.trod_int Tryz.underlying3 h6
    obtain ⟨n7, e7, _, w7⟩ := DataW.trod_int Tryz.underlying3 h7
    obtain ⟨n8, e8, _, w8⟩ := DataW.trod_int Tryz.underlying3 h8
    obtain ⟨so, m, cp, zs, rfl, hz, hmc⟩ := spsO_of_trod h9
    simp at e0 e1 e2 e3 e4 e5 e6 e7 e8
    subst e0 e1 e2 e3 e4 e5 e6 e7 e8
    refine ⟨⟨⟨n0, n1, n2, n3, n4, n5, n6, n7, n8⟩, so, m, cp, zs⟩, rfl, ⟨hz, hmc, fun i => ?_⟩⟩
    have b0 := wf_bd w0; have b1 := wf_bd w1; have b2 := wf_bd w2; have b3 := wf_bd w3; have b4 := wf_bd w4; have b5 := wf_bd w5; have b6 := wf_bd w6; have b7 := wf_bd w7; have b8 := wf_bd w8
    unfold Evn.get
    split <;> first | assumption | omega
end
section
variable {H : Type} {enc : TypeId × Value → H} {w : World} {held : Bool} {b0 : Nat} {r : Reach} {v : Value} {d : DataW H} {p : List MemPlace}
set_option maxRecDepth 100000 in
theorem open_bytes (hv : Value.okWide Tryz.prog w r b0 40 v) (h : DataW.Trod enc Tryz.prog w 0 (fun _ => true) held 40 v d p) : ∃ ao n cp l, v = .slice ao n cp ∧ BytsAt w ao n l ∧ n ≤ cp ∧ (ao = none → n = 0 ∧ cp = 0) := by
  obtain ⟨fuel, hf⟩ := h
  have hvc : v.cells.toList = [v] := by
    simp only [Value.okWide, Tryz.underlying40, Cell.okWide] at hv
    cases v <;> simp_all [Value.cells, Cell.ok]
  rw [hvc] at hf
  exact bytesO_of_trod hf
set_option maxRecDepth 100000 in
theorem open_event (hv : Value.okWide Tryz.prog w r b0 43 v) (h : DataW.Trod enc Tryz.prog w 0 (fun _ => true) held 43 v d p) : ∃ a : Evv, v = a.val ∧ a.ok w := by
  obtain ⟨fuel, hf⟩ := h
  obtain ⟨cs, rfl⟩ : ∃ cs, v = .agg cs := by
    simp only [Value.okWide, Tryz.underlying43] at hv
    cases v <;> simp_all
  obtain ⟨a, e, hok⟩ := event_of_trod hf
  refine ⟨a, ?_, hok⟩
  have e2 : cs = a.cells := Array.toList_inj.1 e
  rw [e2]
end
end Go.Proofs.YteoihdkaoipocaaGreatDoor

/- The document's reader: Fail 55. Plain theorems: no condition. -/
namespace Go.Proofs.YteoihdkaoipocaaGreatDoor
open Go.RowKit Go.Maps

/-- a reader of the document in memory: the bytes left, the error -/
structure Rdx (w : World) (rb B : Nat) (l : List UInt8) (e : Int) : Prop where
  ex : ∃ so n c, w.heap[rb]? = some (.cells #[.slice so n c, .int .i64 e] 54 (0, 0)) ∧ BytsAt w so n l ∧ n ≤ c ∧ (so = none → n = 0 ∧ c = 0) ∧ (l ≠ [] → ∀ ad, so = some ad → ad.block < B)
theorem Rdx.low {w w' : World} {rb B : Nat} {l : List UInt8} {e : Int} (h : Rdx w rb B l e) (hb : Below w.heap.size w w') : Rdx w' rb B l e := by
  obtain ⟨so, n, c, h1, h2, h3⟩ := h.ex
  exact ⟨so, n, c, blk_below hb h1 (blk_lt h1), h2.low hb, h3⟩
theorem Rdx.lt {w : World} {rb B : Nat} {l : List UInt8} {e : Int} (h : Rdx w rb B l e) : rb < w.heap.size := by
  obtain ⟨so, n, c, h1, _⟩ := h.ex
  exact blk_lt h1
theorem rdx_new (w : World) {so : Option Addr} {n c : Nat} {l : List UInt8} (h : BytsAt w so n l) (hc : n ≤ c) (hso : so = none → n = 0 ∧ c = 0) : Rdx (w.alloc (.cells #[.slice so n c, .int .i64 0] 54 (0, 0))) w.heap.size w.heap.size l 0 :=
  ⟨so, n, c, blk_new _ _, h.low ((Below.refl _ _).alloc (Nat.le_refl _) _), hc, hso, byts_lt h⟩
theorem Rdx.at {w w' : World} {rb B B' : Nat} {l : List UInt8} {e : Int} (h : Rdx w rb B l e) (hb : Below B' w w') (hr : rb < B') (hB : B ≤ B') : Rdx w' rb B l e := by
  obtain ⟨so, n, c, h1, h2, h3, h4, h5⟩ := h.ex
  refine ⟨so, n, c, blk_below hb h1 hr, ⟨h2.len, h2.max, fun i x hx => ?_⟩, h3, h4, h5⟩
  obtain ⟨b, off, e1, hlt, hc⟩ := h2.cell i x hx
  have hb5 := h5 (fun c => by rw [c] at hx; simp at hx) _ e1
  exact ⟨b, off, e1, Nat.lt_of_lt_of_le hlt hb.size, (below_cell hb (Nat.lt_of_lt_of_le hb5 hB)).trans hc⟩
set_option maxRecDepth 100000 in
theorem xfail_any {w : World} {rb B : Nat} {l : List UInt8} {e : Int} (h : Rdx w rb B l e) (x : Int) : Calls Tryz.prog 55 #[.pointer (some ⟨rb, 0, none⟩), .int .i64 x] w fun en w' => en = .returned (.tuple #[]) ∧ Rdx w' rb B (failL l e x) (failE e x) ∧ Kept rb w w' := by
  obtain ⟨so, n, c, h1, h2, h3, h4, h5⟩ := h.ex
  have y1 : w.cell? ⟨rb, 1, none⟩ = some (.int .i64 e) := blk_cell h1 1
  by_cases q : e = 0
  · by_cases q2 : x = 0
    · have d1 : (e == (0 : Int)) = true := by rw [q]; rfl
      have d2 : (x != (0 : Int)) = false := by rw [q2]; rfl
      have e1 : failL l e x = l := if_neg (fun c => c.2 q2)
      have e2 : failE e x = e := if_neg (fun c => c.2 q2)
      replace h := Lib.hid h; replace h1 := Lib.hid h1; replace h2 := Lib.hid h2; replace h4 := Lib.hid h4; replace h5 := Lib.hid h5; replace q := Lib.hid q; replace q2 := Lib.hid q2; replace e1 := Lib.hid e1; replace e2 := Lib.hid e2
      go_enter Tryz.func55, Tryz.ntmps55
      go_wp2
      go_end0
      exact ⟨rfl, by rw [e1.out, e2.out]; exact h.out, Kept.refl _ _⟩
    · have d1 : (e == (0 : Int)) = true := by rw [q]; rfl
      have d2 : (x != (0 : Int)) = true := by rw [bne_iff_ne]; exact q2
      have e1 : failL l e x = [] := if_pos ⟨q, q2⟩
      have e2 : failE e x = x := if_pos ⟨q, q2⟩
      have f1 := blk_free h1 1
      have f0 := blk_free (blk_set h1 1 (.int .i64 x)) 0
      have y0 : (w.setCell ⟨rb, 1, none⟩ (.int .i64 x)).cell? ⟨rb, 0, none⟩ = some (.slice so n c) := by rw [blk_cell (blk_set h1 1 _)]; simp
      have h6 := blk_set (blk_set h1 1 (.int .i64 x)) 0 (.slice none 0 0)
      have hk : Kept rb w ((w.setCell ⟨rb, 1, none⟩ (.int .i64 x)).setCell ⟨rb, 0, none⟩ (.slice none 0 0)) := (Kept.set rb 1 w _).trans (Kept.set rb 0 _ _)
      have hR : Rdx ((w.setCell ⟨rb, 1, none⟩ (.int .i64 x)).setCell ⟨rb, 0, none⟩ (.slice none 0 0)) rb B [] x := ⟨none, 0, 0, by simpa using h6, byts_nil _, Nat.le_refl _, fun _ => ⟨rfl, rfl⟩, fun h => absurd rfl h⟩
      replace h := Lib.hid h; replace h1 := Lib.hid h1; replace h2 := Lib.hid h2; replace h4 := Lib.hid h4; replace h5 := Lib.hid h5; replace q := Lib.hid q; replace q2 := Lib.hid q2; replace e1 := Lib.hid e1; replace e2 := Lib.hid e2; replace h6 := Lib.hid h6; replace hk := Lib.hid hk; replace hR := Lib.hid hR
      go_enter Tryz.func55, Tryz.ntmps55
      go_wp2
      go_end0
      exact ⟨rfl, by rw [e1.out, e2.out]; exact hR.out, hk.out⟩
  · have d1 : (e == (0 : Int)) = false := by rw [beq_eq_false_iff_ne]; exact q
    have e1 : failL l e x = l := if_neg (fun c => q c.1)
    have e2 : failE e x = e := if_neg (fun c => q c.1)
    replace h := Lib.hid h; replace h1 := Lib.hid h1; replace h2 := Lib.hid h2; replace h4 := Lib.hid h4; replace h5 := Lib.hid h5; replace q := Lib.hid q; replace e1 := Lib.hid e1; replace e2 := Lib.hid e2
    go_enter Tryz.func55, Tryz.ntmps55
    go_wp2
    go_end0
    exact ⟨rfl, by rw [e1.out, e2.out]; exact h.out, Kept.refl _ _⟩
end Go.Proofs.YteoihdkaoipocaaGreatDoor

/- The document's reader: Uint 91. Plain theorems: no condition. -/
namespace Go.Proofs.YteoihdkaoipocaaGreatDoor
open Go.RowKit Go.Maps

theorem pow128_le {k : Nat} (h : k ≤ 8) : 128 ^ k ≤ 72057594037927936 := Nat.le_trans (Nat.pow_le_pow_right (by omega) h) (by decide)
theorem add_lt {acc m k : Nat} (hk : k ≤ 9) (hacc : acc < 128 ^ k) (h9 : k = 9 → m ≤ 1) : (m % 128) * 128 ^ k < 18446744073709551616 ∧ acc + (m % 128) * 128 ^ k < 18446744073709551616 := by
  by_cases c : k = 9
  · have h1 := h9 c
    subst c
    rw [p9] at hacc ⊢
    omega
  · have h1 := pow128_le (k := k) (by omega)
    have h2 : (m % 128) * 128 ^ k ≤ 127 * 72057594037927936 := Nat.mul_le_mul (by omega) h1
    omega
theorem add_step {acc m k : Nat} (hk : k ≤ 9) (hacc : acc < 128 ^ k) (h9 : k = 9 → m ≤ 1) :
    IntKind.u64.wrap ((acc : Int) + IntKind.u64.wrap (((128 ^ k : Nat) : Int) * ((m : Int) % 128))) = ((acc + (m % 128) * 128 ^ k : Nat) : Int) := by
  obtain ⟨h1, h2⟩ := add_lt hk hacc h9
  have e : ((128 ^ k : Nat) : Int) * ((m : Int) % 128) = (((m % 128) * 128 ^ k : Nat) : Int) := by
    rw [Int.natCast_mul, Int.mul_comm, Int.natCast_emod]
    rfl
  rw [e]
  generalize (m % 128) * 128 ^ k = X at h1 h2 ⊢
  have e1 : IntKind.u64.wrap (X : Int) = (X : Int) := wraps_u64 _ (by omega) (by omega)
  rw [e1, ← Int.natCast_add]
  exact wraps_u64 _ (by omega) (by omega)
set_option maxRecDepth 100000 in
set_option maxHeartbeats 3200000 in
theorem xuint_any {w : World} {rb B : Nat} {l : List UInt8} {e : Int} (h : Rdx w rb B l e) : Calls Tryz.prog 91 #[.pointer (some ⟨rb, 0, none⟩)] w fun en w' => en = .returned (.int .u64 (uintR l e).1) ∧ Rdx w' rb B (uintR l e).2.1 (uintR l e).2.2 ∧ Kept rb w w' := by
  obtain ⟨so, n, c, h1, h2, h3, h4, h5⟩ := h.ex
  have y1 : w.cell? ⟨rb, 1, none⟩ = some (.int .i64 e) := blk_cell h1 1
  have y0 : w.cell? ⟨rb, 0, none⟩ = some (.slice so n c) := blk_cell h1 0
  have f0 := blk_free h1 0
  by_cases q : e = 0
  rotate_left
  · have d1 : (e == (0 : Int)) = false := beq_eq_false_iff_ne.2 q
    have e1 : uintR l e = (0, l, e) := if_neg q
    replace h := Lib.hid h; replace h1 := Lib.hid h1; replace h2 := Lib.hid h2; replace h4 := Lib.hid h4; replace h5 := Lib.hid h5; replace q := Lib.hid q; replace e1 := Lib.hid e1
    go_enter Tryz.func91, Tryz.ntmps91
    go_wp2
    go_loopw [3] (fun nv wr => nv = .int .u64 0 ∧ Hid (wr = w)) (fun _ _ => 0)
    case atStart => exact ⟨rfl, rfl⟩
    case round =>
      obtain ⟨rfl, hw⟩ := hrel
      have hw2 := hw.out
      subst hw2
      go_wp2
      go_ret
      exact ⟨by rw [e1.out]; rfl, by rw [e1.out]; exact h.out, Kept.refl _ _⟩
  subst q
  have e1 : uintR l 0 = decU 0 0 l := if_pos rfl
  have hl := h2.len
  have hmx := h2.max
  replace h := Lib.hid h; replace h1 := Lib.hid h1; replace h2 := Lib.hid h2; replace h4 := Lib.hid h4; replace h5 := Lib.hid h5; replace e1 := Lib.hid e1; replace hl := Lib.hid hl
  go_enter Tryz.func91, Tryz.ntmps91
  go_wp2
  go_loopw [3, 4, 5] (fun nv pv iv wr => ∃ k acc P : Nat, nv = .int .u64 acc ∧ pv = .int .u64 P ∧ iv = .int .i64 k ∧ Hid (P = 128 ^ k) ∧ k ≤ n ∧ k ≤ 9 ∧ Hid (acc < 128 ^ k) ∧ Hid (decU 0 0 l = decU k acc (l.drop k)) ∧ Hid (wr = w)) (fun _ _ iv _ => n - (intOf iv).toNat)
  case atStart => exact ⟨0, 0, 1, rfl, rfl, rfl, rfl, Nat.zero_le _, by omega, (show 0 < 128 ^ 0 by decide), rfl, rfl⟩
  case round =>
    obtain ⟨k, acc, P, rfl, rfl, rfl, hP, hk, hk9, hacc, hdec, hw⟩ := hrel
    have hw2 := hw.out
    subst hw2
    by_cases hc : k = n
    · have d3 : decide ((n : Int) ≤ (k : Int)) = true := decide_eq_true (by omega)
      have d3' : decide (n ≤ k) = true := decide_eq_true (by omega)
      have hdr : l.drop k = [] := List.drop_of_length_le (by rw [hl.out, hc]; exact Nat.le_refl _)
      have e2 : uintR l 0 = (0, [], 10) := by rw [e1.out, hdec.out, hdr]; rfl
      have hF := xfail_any h.out 10
      replace hdr := Lib.hid hdr; replace e2 := Lib.hid e2; replace hF := Lib.hid hF; replace hc := Lib.hid hc
      go_wp2_with fail
      refine hF.out.mono ?_
      rintro e w1 ⟨rfl, hR, hK⟩
      replace hR := Lib.hid hR; replace hK := Lib.hid hK
      go_wp2
      go_ret
      exact ⟨by rw [e2.out]; rfl, by rw [e2.out]; exact hR.out, hK.out⟩
    · have d3 : decide ((n : Int) ≤ (k : Int)) = false := decide_eq_false (by omega)
      have d3' : decide (n ≤ k) = false := decide_eq_false (by omega)
      have hkn : (k : Int) < n := by omega
      have hk0 : (0 : Int) ≤ (k : Int) := by omega
      obtain ⟨x, hx⟩ : ∃ x, l[k]? = some x := ⟨_, List.getElem?_eq_getElem (by rw [hl.out]; omega)⟩
      obtain ⟨b, off, rfl, hbl, hcell⟩ := h2.out.cell k x hx
      obtain ⟨m, hm⟩ : ∃ m, m = x.toNat := ⟨_, rfl⟩
      have hm256 : m < 256 := by rw [hm]; exact x.toNat_lt
      rw [← hm] at hcell
      have hdrop : l.drop k = x :: l.drop (k + 1) := by
        rw [List.drop_eq_getElem_cons (by rw [hl.out]; omega)]
        rw [List.getElem?_eq_getElem (by rw [hl.out]; omega)] at hx
        rw [Option.some.inj hx]
      have hx' : l ≠ [] := fun c => by rw [c] at hx; simp at hx
      replace hx := Lib.hid hx; replace hm := Lib.hid hm; replace hdrop := Lib.hid hdrop; replace hx' := Lib.hid hx'
      go_upto_region 9 with fail
      obtain ⟨q, hq⟩ : ∃ q, q = decide ((k = 9 ∧ 1 < m) ∨ (0 < k ∧ m = 0)) := ⟨_, rfl⟩
      replace hq := Lib.hid hq
      go_cut [43] from 30 to 44 (fun bv wx => RuB wr q bv wx)
      case first =>
        by_cases k9 : k = 9
        · have a1 : ((k : Int) == (9 : Int)) = true := by rw [k9]; rfl
          by_cases m1 : 1 < m
          · have a2 : decide ((1 : Int) < (m : Int)) = true := decide_eq_true (by omega)
            have a2' : decide (1 < m) = true := decide_eq_true m1
            have hr : decide ((k = 9 ∧ 1 < m) ∨ (0 < k ∧ m = 0)) = true := decide_eq_true (.inl ⟨k9, m1⟩)
            replace k9 := Lib.hid k9; replace hr := Lib.hid hr
            go_wp2
            go_meet
            exact ⟨by rw [hq.out, hr.out], rfl⟩
          · have a2 : decide ((1 : Int) < (m : Int)) = false := decide_eq_false (by omega)
            have a2' : decide (1 < m) = false := decide_eq_false m1
            have a3 : decide ((0 : Int) < (k : Int)) = true := decide_eq_true (by omega)
            have a3' : decide (0 < k) = true := decide_eq_true (by omega)
            by_cases m0 : m = 0
            · have a4 : ((m : Int) == (0 : Int)) = true := by rw [m0]; rfl
              have hr : decide ((k = 9 ∧ 1 < m) ∨ (0 < k ∧ m = 0)) = true := decide_eq_true (by omega)
              replace m0 := Lib.hid m0; replace k9 := Lib.hid k9; replace hr := Lib.hid hr
              go_wp2
              go_meet
              exact ⟨by rw [hq.out, hr.out], rfl⟩
            · have a4 : ((m : Int) == (0 : Int)) = false := by rw [beq_eq_false_iff_ne]; omega
              have hr : decide ((k = 9 ∧ 1 < m) ∨ (0 < k ∧ m = 0)) = false := decide_eq_false (by omega)
              replace m0 := Lib.hid m0; replace k9 := Lib.hid k9; replace hr := Lib.hid hr
              go_wp2
              go_meet
              exact ⟨by rw [hq.out, hr.out], rfl⟩
        · have a1 : ((k : Int) == (9 : Int)) = false := by rw [beq_eq_false_iff_ne]; omega
          by_cases k0 : 0 < k
          · have a3 : decide ((0 : Int) < (k : Int)) = true := decide_eq_true (by omega)
            have a3' : decide (0 < k) = true := decide_eq_true k0
            by_cases m0 : m = 0
            · have a4 : ((m : Int) == (0 : Int)) = true := by rw [m0]; rfl
              have hr : decide ((k = 9 ∧ 1 < m) ∨ (0 < k ∧ m = 0)) = true := decide_eq_true (by omega)
              replace m0 := Lib.hid m0; replace k9 := Lib.hid k9; replace hr := Lib.hid hr
              go_wp2
              go_meet
              exact ⟨by rw [hq.out, hr.out], rfl⟩
            · have a4 : ((m : Int) == (0 : Int)) = false := by rw [beq_eq_false_iff_ne]; omega
              have hr : decide ((k = 9 ∧ 1 < m) ∨ (0 < k ∧ m = 0)) = false := decide_eq_false (by omega)
              replace m0 := Lib.hid m0; replace k9 := Lib.hid k9; replace hr := Lib.hid hr
              go_wp2
              go_meet
              exact ⟨by rw [hq.out, hr.out], rfl⟩
          · have a3 : decide ((0 : Int) < (k : Int)) = false := decide_eq_false (by omega)
            have a3' : decide (0 < k) = false := decide_eq_false k0
            have hr : decide ((k = 9 ∧ 1 < m) ∨ (0 < k ∧ m = 0)) = false := decide_eq_false (by omega)
            by_cases m0 : m = 0
            · have a4 : ((m : Int) == (0 : Int)) = true := by rw [m0]; rfl
              replace k9 := Lib.hid k9; replace hr := Lib.hid hr; replace k0 := Lib.hid k0; replace m0 := Lib.hid m0
              go_wp2
              go_meet
              exact ⟨by rw [hq.out, hr.out], rfl⟩
            · have a4 : ((m : Int) == (0 : Int)) = false := by rw [beq_eq_false_iff_ne]; omega
              replace k9 := Lib.hid k9; replace hr := Lib.hid hr; replace k0 := Lib.hid k0; replace m0 := Lib.hid m0
              go_wp2
              go_meet
              exact ⟨by rw [hq.out, hr.out], rfl⟩
      case rest =>
        obtain ⟨rfl, hw3⟩ := hcut
        subst hw3
        by_cases hbad : (k = 9 ∧ 1 < m) ∨ (0 < k ∧ m = 0)
        · rw [hq.out, decide_eq_true hbad]
          have e2 : uintR l 0 = (0, [], 11) := by
            rw [e1.out, hdec.out, hdrop.out, decU, if_pos (by rw [← hm.out]; exact hbad)]
          have hF := xfail_any h.out 11
          clear hq
          replace e2 := Lib.hid e2; replace hF := Lib.hid hF; replace hbad := Lib.hid hbad
          go_wp2_with fail
          refine hF.out.mono ?_
          rintro e w1 ⟨rfl, hR, hK⟩
          replace hR := Lib.hid hR; replace hK := Lib.hid hK
          go_wp2
          go_ret
          exact ⟨by rw [e2.out]; rfl, by rw [e2.out]; exact hR.out, hK.out⟩
        · rw [hq.out, decide_eq_false hbad]
          clear hq
          replace hbad := Lib.hid hbad
          have hst : ¬((k = 9 ∧ 1 < m) ∨ (0 < k ∧ m = 0)) := hbad.out
          have hd2 : decU 0 0 l = if m < 128 then (acc + m * 128 ^ k, l.drop (k + 1), 0) else decU (k + 1) (acc + (m - 128) * 128 ^ k) (l.drop (k + 1)) := by
            rw [hdec.out, hdrop.out, decU, if_neg (by rw [← hm.out]; exact hst), ← hm.out]
          have hm9 : k = 9 → m ≤ 1 := fun c => by omega
          clear hst
          obtain ⟨A, hA⟩ : ∃ A, A = acc + (m % 128) * 128 ^ k := ⟨_, rfl⟩
          have hor := add_step (m := m) hk9 hacc.out hm9
          rw [← hA, ← hP.out] at hor
          replace hd2 := Lib.hid hd2; replace hA := Lib.hid hA; replace hm9 := Lib.hid hm9
          go_upto_region 13 with fail
          clear hor
          by_cases h128 : m < 128
          · have d5 : decide ((m : Int) < 128) = true := decide_eq_true (by omega)
            have d5' : decide (m < 128) = true := decide_eq_true h128
            have e2 : uintR l 0 = (A, l.drop (k + 1), 0) := by rw [e1.out, hd2.out, if_pos h128, hA.out, Nat.mod_eq_of_lt h128]
            have hwk : IntKind.i64.wrap ((k : Int) + 1) = (k : Int) + 1 := IntWalk.i64_in _ (by omega)
            by_cases hcc : c = k + 1
            · obtain rfl : n = k + 1 := by omega
              subst hcc
              have hR : Rdx (wr.setCell ⟨rb, 0, none⟩ (.slice (some ⟨b, off, none⟩) 0 0)) rb B (l.drop (k + 1)) 0 := by
                have hz : l.drop (k + 1) = [] := List.drop_of_length_le (by rw [hl.out]; exact Nat.le_refl _)
                rw [hz]
                exact ⟨some ⟨b, off, none⟩, 0, 0, by simpa using blk_set h1.out 0 (.slice (some ⟨b, off, none⟩) 0 0), ⟨rfl, by omega, fun i x hx => by simp at hx⟩, Nat.le_refl _, fun h => (by cases h), fun h => absurd rfl h⟩
              have hK := Kept.set rb 0 wr (.slice (some ⟨b, off, none⟩) 0 0)
              replace e2 := Lib.hid e2; replace hR := Lib.hid hR; replace hK := Lib.hid hK; replace h128 := Lib.hid h128
              go_wp2
              go_ret
              exact ⟨by rw [e2.out]; rfl, by rw [e2.out]; exact hR.out, hK.out⟩
            · have hR : Rdx (wr.setCell ⟨rb, 0, none⟩ (.slice (some ⟨b, off + (k + 1), none⟩) (n - (k + 1)) (c - (k + 1)))) rb B (l.drop (k + 1)) 0 := by
                have hK := Kept.set rb 0 wr (.slice (some ⟨b, off + (k + 1), none⟩) (n - (k + 1)) (c - (k + 1)))
                exact ⟨_, _, _, by simpa using blk_set h1.out 0 (.slice (some ⟨b, off + (k + 1), none⟩) (n - (k + 1)) (c - (k + 1))), byts_kept h1.out (byts_drop h2.out (k + 1) (by omega)) hK, by omega, fun h => (by cases h), fun _ ad e => by have h6 := h5.out hx'.out _ rfl; rw [← Option.some.inj e]; exact h6⟩
              have hK := Kept.set rb 0 wr (.slice (some ⟨b, off + (k + 1), none⟩) (n - (k + 1)) (c - (k + 1)))
              replace e2 := Lib.hid e2; replace hR := Lib.hid hR; replace hK := Lib.hid hK; replace h128 := Lib.hid h128
              go_wp2
              go_ret
              exact ⟨by rw [e2.out]; rfl, by rw [e2.out]; exact hR.out, hK.out⟩
          · have d5 : decide ((m : Int) < 128) = false := decide_eq_false (by omega)
            have d5' : decide (m < 128) = false := decide_eq_false h128
            have hk8 : k ≤ 8 := by
              have := hbad.out
              omega
            have hmm : m % 128 = m - 128 := by omega
            have hd3 : decU 0 0 l = decU (k + 1) A (l.drop (k + 1)) := by rw [hd2.out, if_neg h128, hA.out, hmm]
            have hA2 : A < 128 ^ (k + 1) := by
              rw [hA.out, Nat.pow_succ]
              have h1 := hacc.out
              have h2 : (m % 128) * 128 ^ k ≤ 127 * 128 ^ k := Nat.mul_le_mul (by omega) (Nat.le_refl _)
              omega
            obtain ⟨P2, hP2⟩ : ∃ P2, P2 = P * 128 := ⟨_, rfl⟩
            have hP3 : P2 = 128 ^ (k + 1) := by rw [hP2, hP.out, Nat.pow_succ]
            have hPl : P ≤ 72057594037927936 := by rw [hP.out]; exact pow128_le hk8
            have hpl : IntKind.u64.wrap ((P : Int) * 128) = (P2 : Int) := by
              rw [wraps_u64 _ (by omega) (by omega), hP2]
              omega
            rw [hpl]
            clear hpl hPl
            replace hd3 := Lib.hid hd3; replace hA2 := Lib.hid hA2; replace hmm := Lib.hid hmm; replace h128 := Lib.hid h128; replace hP2 := Lib.hid hP2; replace hP3 := Lib.hid hP3
            go_wp2
            go_roundw
            case rel => exact ⟨k + 1, A, P2, rfl, rfl, by go_num, hP3.out, by omega, by omega, hA2.out, hd3.out, by first | rfl | exact trivial⟩
            case measure => simp [intOf]; omega
end Go.Proofs.YteoihdkaoipocaaGreatDoor

/- The document's reader: Int 54, Text 92. Plain theorems: no condition. -/
namespace Go.Proofs.YteoihdkaoipocaaGreatDoor
open Go.RowKit Go.Maps

set_option maxRecDepth 100000 in
set_option maxHeartbeats 1600000 in
theorem xint_any {w : World} {rb B : Nat} {l : List UInt8} {e : Int} (h : Rdx w rb B l e) : Calls Tryz.prog 54 #[.pointer (some ⟨rb, 0, none⟩)] w fun en w' => en = .returned (.int .i64 (intR l e).1) ∧ Rdx w' rb B (intR l e).2.1 (intR l e).2.2 ∧ Kept rb w w' := by
  have hk := xuint_any h
  obtain ⟨u, hu⟩ : ∃ u, u = (uintR l e).1 := ⟨_, rfl⟩
  rw [← hu] at hk
  have hlt : u < 18446744073709551616 := by rw [hu]; exact uintR_lt l e
  have h0 : (0 : Int) ≤ (u : Int) := by omega
  have hltI : (u : Int) < 18446744073709551616 := by omega
  by_cases q : u % 2 = 1
  · have d : (((u : Int) % 2) == (1 : Int)) = true := by rw [beq_iff_eq]; omega
    have e1 : (intR l e).1 = -((u : Int) / 2) - 1 := by
      unfold intR unzz
      rw [← hu, if_pos q]
      omega
    replace hk := Lib.hid hk; replace h := Lib.hid h; replace hu := Lib.hid hu; replace e1 := Lib.hid e1; replace q := Lib.hid q
    go_enter Tryz.func54, Tryz.ntmps54
    go_wp2_with fail
    refine hk.out.mono ?_
    rintro en w1 ⟨rfl, hR, hK⟩
    replace hR := Lib.hid hR; replace hK := Lib.hid hK
    go_wp2
    go_ret
    exact ⟨by rw [e1.out]; rfl, hR.out, hK.out⟩
  · have d : (((u : Int) % 2) == (1 : Int)) = false := by rw [beq_eq_false_iff_ne]; omega
    have e1 : (intR l e).1 = (u : Int) / 2 := by
      unfold intR unzz
      rw [← hu, if_neg q]
      omega
    replace hk := Lib.hid hk; replace h := Lib.hid h; replace hu := Lib.hid hu; replace e1 := Lib.hid e1; replace q := Lib.hid q
    go_enter Tryz.func54, Tryz.ntmps54
    go_wp2_with fail
    refine hk.out.mono ?_
    rintro en w1 ⟨rfl, hR, hK⟩
    replace hR := Lib.hid hR; replace hK := Lib.hid hK
    go_wp2
    go_ret
    exact ⟨by rw [e1.out]; rfl, hR.out, hK.out⟩
set_option maxRecDepth 100000 in
set_option maxHeartbeats 3200000 in
theorem xtxt_any {w : World} {rb B : Nat} {l : List UInt8} {e : Int} (h : Rdx w rb B l e) (most : Nat) (hm : most ≤ 1000000) : Calls Tryz.prog 92 #[.pointer (some ⟨rb, 0, none⟩), .int .i64 most] w fun en w' => en = .returned (.string (ofL (textR l e most).1)) ∧ Rdx w' rb B (textR l e most).2.1 (textR l e most).2.2 ∧ Kept rb w w' := by
  have hk := xuint_any h
  obtain ⟨u, hu⟩ : ∃ u, u = (uintR l e).1 := ⟨_, rfl⟩
  obtain ⟨r, hr⟩ : ∃ r, r = (uintR l e).2.1 := ⟨_, rfl⟩
  obtain ⟨x, hx⟩ : ∃ x, x = (uintR l e).2.2 := ⟨_, rfl⟩
  have hlt : u < 18446744073709551616 := by rw [hu]; exact uintR_lt l e
  have hun : uintR l e = (u, r, x) := by rw [hu, hr, hx]
  rw [← hu, ← hr, ← hx] at hk
  have hmax : max (most : Int) 0 = (most : Int) := by omega
  have hwm : IntKind.u64.wrap (most : Int) = (most : Int) := by rw [IntKind.wrap_u64]; omega
  have hct : cntR l e most = if most < u then (0, failL r x 11, failE x 11) else (u, r, x) := by unfold cntR; rw [← hu, hun]
  by_cases q : x = 0
  rotate_left
  · have d : (x != (0 : Int)) = true := by rw [bne_iff_ne]; exact q
    have d2 : (x == (0 : Int)) = false := beq_eq_false_iff_ne.2 q
    have e1 : textR l e most = ([], r, x) := by
      unfold textR
      rw [hct]
      split
      · have f1 : failL r x 11 = r := if_neg (fun c => q c.1)
        have f2 : failE x 11 = x := if_neg (fun c => q c.1)
        rw [f1, f2, if_pos q]
      · first | rfl | rw [if_pos q]
    replace hk := Lib.hid hk; replace h := Lib.hid h; replace hu := Lib.hid hu; replace hr := Lib.hid hr; replace hx := Lib.hid hx; replace hun := Lib.hid hun; replace e1 := Lib.hid e1; replace q := Lib.hid q; replace hct := Lib.hid hct
    go_enter Tryz.func92, Tryz.ntmps92
    go_wp2_with fail
    refine hk.out.mono ?_
    rintro en w1 ⟨rfl, hR, hK⟩
    obtain ⟨so, n, c, h1, h2, h3, h4, h5⟩ := hR.ex
    have y1 : w1.cell? ⟨rb, 1, none⟩ = some (.int .i64 x) := blk_cell h1 1
    replace hR := Lib.hid hR; replace hK := Lib.hid hK; replace h1 := Lib.hid h1; replace h2 := Lib.hid h2; replace h3 := Lib.hid h3; replace h4 := Lib.hid h4; replace h5 := Lib.hid h5
    go_wp2
    go_ret
    exact ⟨by rw [e1.out]; rfl, by rw [e1.out]; exact hR.out, hK.out⟩
  subst q
  have d : ((0 : Int) != (0 : Int)) = false := rfl
  by_cases q1 : most < u
  · have d1 : decide ((most : Int) < (u : Int)) = true := decide_eq_true (by omega)
    have d1' : decide (most < u) = true := decide_eq_true q1
    have e1 : textR l e most = ([], [], 11) := by
      unfold textR
      rw [hct, if_pos q1]
      rfl
    replace hk := Lib.hid hk; replace h := Lib.hid h; replace hu := Lib.hid hu; replace hr := Lib.hid hr; replace hx := Lib.hid hx; replace hun := Lib.hid hun; replace e1 := Lib.hid e1; replace hct := Lib.hid hct; replace q1 := Lib.hid q1
    go_enter Tryz.func92, Tryz.ntmps92
    go_wp2_with fail
    refine hk.out.mono ?_
    rintro en w1 ⟨rfl, hR, hK⟩
    obtain ⟨so, n, c, h1, h2, h3, h4, h5⟩ := hR.ex
    have y1 : w1.cell? ⟨rb, 1, none⟩ = some (.int .i64 0) := blk_cell h1 1
    have hF := xfail_any hR 11
    replace hR := Lib.hid hR; replace hK := Lib.hid hK; replace h1 := Lib.hid h1; replace h2 := Lib.hid h2; replace h3 := Lib.hid h3; replace h4 := Lib.hid h4; replace h5 := Lib.hid h5; replace hF := Lib.hid hF
    go_wp2_with fail
    refine hF.out.mono ?_
    rintro en w2 ⟨rfl, hR2, hK2⟩
    have hKK := hK.out.trans hK2
    have hR3 : Rdx w2 rb B [] 11 := hR2
    obtain ⟨so2, n2, c2, g1, g2, g3, g4, g5⟩ := hR3.ex
    have z1 : w2.cell? ⟨rb, 1, none⟩ = some (.int .i64 11) := blk_cell g1 1
    clear y1
    replace hR2 := Lib.hid hR2; replace hK2 := Lib.hid hK2; replace hKK := Lib.hid hKK; replace hR3 := Lib.hid hR3; replace g1 := Lib.hid g1; replace g2 := Lib.hid g2; replace g3 := Lib.hid g3; replace g4 := Lib.hid g4; replace g5 := Lib.hid g5
    go_wp2
    go_ret
    exact ⟨by rw [e1.out]; rfl, by rw [e1.out]; exact hR3.out, hKK.out⟩
  have d1 : decide ((most : Int) < (u : Int)) = false := decide_eq_false (by omega)
  have d1' : decide (most < u) = false := decide_eq_false q1
  have hct2 : cntR l e most = (u, r, 0) := by rw [hct, if_neg q1]
  have hum : u ≤ most := by omega
  by_cases q2 : r.length < u
  · have e1 : textR l e most = ([], [], 10) := by unfold textR; rw [hct2, if_neg (by simp), if_pos q2]
    replace hk := Lib.hid hk; replace h := Lib.hid h; replace hu := Lib.hid hu; replace hr := Lib.hid hr; replace hx := Lib.hid hx; replace hun := Lib.hid hun; replace e1 := Lib.hid e1; replace hct := Lib.hid hct; replace hct2 := Lib.hid hct2; replace q1 := Lib.hid q1
    go_enter Tryz.func92, Tryz.ntmps92
    go_wp2_with fail
    refine hk.out.mono ?_
    rintro en w1 ⟨rfl, hR, hK⟩
    obtain ⟨so, n, c, h1, h2, h3, h4, h5⟩ := hR.ex
    have y1 : w1.cell? ⟨rb, 1, none⟩ = some (.int .i64 0) := blk_cell h1 1
    have y0 : w1.cell? ⟨rb, 0, none⟩ = some (.slice so n c) := blk_cell h1 0
    have hln := h2.len
    have hnu : n < u := by omega
    have hwn : IntKind.u64.wrap (n : Int) = (n : Int) := by rw [IntKind.wrap_u64]; omega
    have d2 : decide ((n : Int) < (u : Int)) = true := decide_eq_true (by omega)
    have d2' : decide (n < u) = true := decide_eq_true hnu
    have hF := xfail_any hR 10
    replace hR := Lib.hid hR; replace hK := Lib.hid hK; replace h1 := Lib.hid h1; replace h2 := Lib.hid h2; replace h3 := Lib.hid h3; replace h4 := Lib.hid h4; replace h5 := Lib.hid h5; replace hln := Lib.hid hln; replace q2 := Lib.hid q2; replace hF := Lib.hid hF
    go_wp2_with fail
    refine hF.out.mono ?_
    rintro en w2 ⟨rfl, hR2, hK2⟩
    have hKK := hK.out.trans hK2
    have hR3 : Rdx w2 rb B [] 10 := hR2
    obtain ⟨so2, n2, c2, g1, g2, g3, g4, g5⟩ := hR3.ex
    have z1 : w2.cell? ⟨rb, 1, none⟩ = some (.int .i64 10) := blk_cell g1 1
    clear y1 y0
    replace hR2 := Lib.hid hR2; replace hK2 := Lib.hid hK2; replace hKK := Lib.hid hKK; replace hR3 := Lib.hid hR3; replace g1 := Lib.hid g1; replace g2 := Lib.hid g2; replace g3 := Lib.hid g3; replace g4 := Lib.hid g4; replace g5 := Lib.hid g5
    go_wp2
    go_ret
    exact ⟨by rw [e1.out]; rfl, by rw [e1.out]; exact hR3.out, hKK.out⟩
  · have e1 : textR l e most = (r.take u, r.drop u, 0) := by unfold textR; rw [hct2, if_neg (by simp), if_neg q2]
    replace hk := Lib.hid hk; replace h := Lib.hid h; replace hu := Lib.hid hu; replace hr := Lib.hid hr; replace hx := Lib.hid hx; replace hun := Lib.hid hun; replace e1 := Lib.hid e1; replace hct := Lib.hid hct; replace hct2 := Lib.hid hct2; replace q1 := Lib.hid q1
    go_enter Tryz.func92, Tryz.ntmps92
    go_wp2_with fail
    refine hk.out.mono ?_
    rintro en w1 ⟨rfl, hR, hK⟩
    obtain ⟨so, n, c, h1, h2, h3, h4, h5⟩ := hR.ex
    have hmxn := h2.max
    have hwn : IntKind.u64.wrap (n : Int) = (n : Int) := by rw [IntKind.wrap_u64]; omega
    have y1 : w1.cell? ⟨rb, 1, none⟩ = some (.int .i64 0) := blk_cell h1 1
    have y0 : w1.cell? ⟨rb, 0, none⟩ = some (.slice so n c) := blk_cell h1 0
    have f0 := blk_free h1 0
    have hln := h2.len
    have hnu : u ≤ n := by omega
    have d2 : decide ((n : Int) < (u : Int)) = false := decide_eq_false (by omega)
    have d2' : decide (n < u) = false := decide_eq_false (by omega)
    have hcv := conv_byts (byts_take h2 u hnu) c
    by_cases hn0 : n = 0
    · subst hn0
      obtain rfl : u = 0 := by omega
      have hr0 : r = [] := List.eq_nil_of_length_eq_zero (by omega)
      subst hr0
      have hR2 : Rdx (w1.setCell ⟨rb, 0, none⟩ (.slice so 0 c)) rb B [] 0 := ⟨so, 0, c, by simpa using blk_set h1 0 (.slice so 0 c), ⟨rfl, by omega, fun i x hx => by simp at hx⟩, h3, h4, fun h => absurd rfl h⟩
      have hKK := hK.trans (Kept.set rb 0 w1 (.slice so 0 c))
      cases so with
      | none =>
        obtain ⟨_, rfl⟩ := h4 rfl
        replace hR := Lib.hid hR; replace hK := Lib.hid hK; replace h1 := Lib.hid h1; replace h2 := Lib.hid h2; replace h4 := Lib.hid h4; replace h5 := Lib.hid h5; replace hln := Lib.hid hln; replace q2 := Lib.hid q2; replace hR2 := Lib.hid hR2; replace hKK := Lib.hid hKK
        go_wp2
        go_ret
        exact ⟨by rw [e1.out]; rfl, by rw [e1.out]; exact hR2.out, hKK.out⟩
      | some ad =>
        by_cases hc0 : c = 0
        · subst hc0
          replace hR := Lib.hid hR; replace hK := Lib.hid hK; replace h1 := Lib.hid h1; replace h2 := Lib.hid h2; replace h4 := Lib.hid h4; replace h5 := Lib.hid h5; replace hln := Lib.hid hln; replace q2 := Lib.hid q2; replace hR2 := Lib.hid hR2; replace hKK := Lib.hid hKK
          go_wp2
          go_ret
          exact ⟨by rw [e1.out]; rfl, by rw [e1.out]; exact hR2.out, hKK.out⟩
        · replace hR := Lib.hid hR; replace hK := Lib.hid hK; replace h1 := Lib.hid h1; replace h2 := Lib.hid h2; replace h4 := Lib.hid h4; replace h5 := Lib.hid h5; replace hln := Lib.hid hln; replace q2 := Lib.hid q2; replace hR2 := Lib.hid hR2; replace hKK := Lib.hid hKK
          go_wp2
          go_ret
          exact ⟨by rw [e1.out]; rfl, by rw [e1.out]; exact hR2.out, hKK.out⟩
    obtain ⟨x0, hx0⟩ : ∃ x0, r[0]? = some x0 := ⟨_, List.getElem?_eq_getElem (by omega)⟩
    obtain ⟨b, off, rfl, _, _⟩ := h2.cell 0 x0 hx0
    by_cases hcu : c = u
    · obtain rfl : n = u := by omega
      subst hcu
      have hz : r.drop c = [] := List.drop_of_length_le (by omega)
      have hR2 : Rdx (w1.setCell ⟨rb, 0, none⟩ (.slice (some ⟨b, off, none⟩) 0 0)) rb B (r.drop c) 0 := by
        rw [hz]
        exact ⟨_, 0, 0, by simpa using blk_set h1 0 (.slice (some ⟨b, off, none⟩) 0 0), ⟨rfl, by omega, fun i x hx => by simp at hx⟩, Nat.le_refl _, fun h => (by cases h), fun h => absurd rfl h⟩
      have hKK := hK.trans (Kept.set rb 0 w1 (.slice (some ⟨b, off, none⟩) 0 0))
      replace hR := Lib.hid hR; replace hK := Lib.hid hK; replace h1 := Lib.hid h1; replace h2 := Lib.hid h2; replace h4 := Lib.hid h4; replace h5 := Lib.hid h5; replace hln := Lib.hid hln; replace q2 := Lib.hid q2; replace hR2 := Lib.hid hR2; replace hKK := Lib.hid hKK; replace hx0 := Lib.hid hx0; replace hz := Lib.hid hz
      go_wp2
      go_ret
      exact ⟨by rw [e1.out]; rfl, by rw [e1.out]; exact hR2.out, hKK.out⟩
    · have hKs := Kept.set rb 0 w1 (.slice (some ⟨b, off + u, none⟩) (n - u) (c - u))
      have hR2 : Rdx (w1.setCell ⟨rb, 0, none⟩ (.slice (some ⟨b, off + u, none⟩) (n - u) (c - u))) rb B (r.drop u) 0 :=
        ⟨_, _, _, by simpa using blk_set h1 0 (.slice (some ⟨b, off + u, none⟩) (n - u) (c - u)), byts_kept h1 (byts_drop h2 u hnu) hKs, by omega, fun h => (by cases h), fun _ ad e => by have h6 := h5 (fun c => by rw [c] at hx0; simp at hx0) _ rfl; rw [← Option.some.inj e]; exact h6⟩
      have hKK := hK.trans hKs
      replace hR := Lib.hid hR; replace hK := Lib.hid hK; replace h1 := Lib.hid h1; replace h2 := Lib.hid h2; replace h4 := Lib.hid h4; replace h5 := Lib.hid h5; replace hln := Lib.hid hln; replace q2 := Lib.hid q2; replace hR2 := Lib.hid hR2; replace hKK := Lib.hid hKK; replace hx0 := Lib.hid hx0; replace hKs := Lib.hid hKs
      go_wp2
      go_ret
      exact ⟨by rw [e1.out]; rfl, by rw [e1.out]; exact hR2.out, hKK.out⟩
end Go.Proofs.YteoihdkaoipocaaGreatDoor

/- The document's reader of specs: specs 56. Plain theorems: no condition. -/
namespace Go.Proofs.YteoihdkaoipocaaGreatDoor
open Go.RowKit Go.Maps

/-- within the loop -/
structure SxL (w : World) (rb B : Nat) (l : List UInt8) (e : Int) (v : Value) (xs : List Spv) (wr : World) : Prop where
  rd : Rdx wr rb B l e
  own : OwnS wr w.heap.size v xs
  sp : SpT w.heap.size v wr xs
  kp : Kept rb w wr
theorem SxL.low {w : World} {rb B : Nat} {l : List UInt8} {e : Int} {v : Value} {xs : List Spv} {wr w' : World} (h : SxL w rb B l e v xs wr) (hb : Below wr.heap.size wr w') : SxL w rb B l e v xs w' :=
  ⟨h.rd.low hb, ownS_low h.own hb, h.sp.low hb, h.kp.then hb h.kp.size⟩
theorem SxL.kept {w : World} {rb B : Nat} {l l' : List UInt8} {e e' : Int} {v : Value} {xs : List Spv} {wr w' : World} (h : SxL w rb B l e v xs wr) (hk : Kept rb wr w') (hr : rb < w.heap.size) (hR : Rdx w' rb B l' e') : SxL w rb B l' e' v xs w' :=
  ⟨hR, ownS_kept h.own hk hr, h.sp.kept hk hr, h.kp.trans hk⟩
def SxsPost (rb B : Nat) (l : List UInt8) (e : Int) (w : World) (en : Ending) (w' : World) : Prop :=
  ∃ so m c xs, en = .returned (.slice so m c) ∧ m ≤ c ∧ SpsAt w' so m xs ∧ xs.map Spv.pl = (specsR l e).1 ∧ (∀ b o, so = some ⟨b, o, none⟩ → w.heap.size ≤ b) ∧ (∀ x, x ∈ xs → x.pl.after ≠ [] → ∀ b o, x.so = some ⟨b, o, none⟩ → w.heap.size ≤ b) ∧ Rdx w' rb B (specsR l e).2.1 (specsR l e).2.2 ∧ Kept rb w w'
set_option maxRecDepth 100000 in
set_option maxHeartbeats 6400000 in
theorem xspecs_any {w : World} {rb B : Nat} {l : List UInt8} {e : Int} (h : Rdx w rb B l e) (hB : B ≤ w.heap.size) : Calls Tryz.prog 56 #[.pointer (some ⟨rb, 0, none⟩)] w (SxsPost rb B l e w) := by
  obtain ⟨i28, hi28, hz28, hz281, hz282⟩ := info_parts info28
  have hrbw := h.lt
  have hki := xint_any h
  obtain ⟨N, hN⟩ : ∃ N, N = (intR l e).1 := ⟨_, rfl⟩
  obtain ⟨l1, hl1⟩ : ∃ l1, l1 = (intR l e).2.1 := ⟨_, rfl⟩
  obtain ⟨e1, he1⟩ : ∃ e1, e1 = (intR l e).2.2 := ⟨_, rfl⟩
  have hS0 : specsR l e = if N < 1 ∨ 8 < N then ([], failL l1 e1 130, failE e1 130) else spsR N.toNat l1 e1 := by unfold specsR; rw [← hN, ← hl1, ← he1]
  rw [← hN, ← hl1, ← he1] at hki
  unfold SxsPost
  by_cases q0 : e1 = 0
  rotate_left
  · have d0 : (e1 == (0 : Int)) = false := beq_eq_false_iff_ne.2 q0
    have hS1 : specsR l e = ([], l1, e1) := by
      rw [hS0]
      split
      · have f1 : failL l1 e1 130 = l1 := if_neg (fun c => q0 c.1)
        have f2 : failE e1 130 = e1 := if_neg (fun c => q0 c.1)
        rw [f1, f2]
      · exact spsR_err q0
    replace h := Lib.hid h; replace hB := Lib.hid hB; replace hki := Lib.hid hki; replace hN := Lib.hid hN; replace hl1 := Lib.hid hl1; replace he1 := Lib.hid he1; replace hS0 := Lib.hid hS0; replace hrbw := Lib.hid hrbw; replace q0 := Lib.hid q0; replace hS1 := Lib.hid hS1
    go_enter Tryz.func56, Tryz.ntmps56
    go_wp2_with fail
    refine hki.out.mono ?_
    rintro en w1 ⟨rfl, hR1, hK1⟩
    obtain ⟨so1, n1, c1, a1, _⟩ := hR1.ex
    have y1 : w1.cell? ⟨rb, 1, none⟩ = some (.int .i64 e1) := blk_cell a1 1
    replace hR1 := Lib.hid hR1; replace hK1 := Lib.hid hK1; replace a1 := Lib.hid a1
    go_wp2
    go_loopw [4, 5] (fun ov iv wr => ov = .slice none 0 0 ∧ iv = .int .i64 0 ∧ Hid (wr = w1)) (fun _ _ _ => 0)
    case atStart => exact ⟨rfl, rfl, rfl⟩
    case round =>
      obtain ⟨rfl, rfl, hw⟩ := hrel
      have hw2 := hw.out
      subst hw2
      by_cases c0 : 0 < N
      · have c1 : decide ((0 : Int) < N) = true := decide_eq_true c0
        go_wp2
        go_ret
        exact ⟨none, 0, 0, rfl, Nat.le_refl _, [], ⟨rfl, by omega, fun i x h => by simp at h⟩, by rw [hS1.out]; rfl, fun b o e => (by cases e), fun x hx => (by cases hx), by rw [hS1.out]; exact hR1.out, hK1.out⟩
      · have c1 : decide ((0 : Int) < N) = false := decide_eq_false c0
        go_wp2
        go_ret
        exact ⟨none, 0, 0, rfl, Nat.le_refl _, [], ⟨rfl, by omega, fun i x h => by simp at h⟩, by rw [hS1.out]; rfl, fun b o e => (by cases e), fun x hx => (by cases hx), by rw [hS1.out]; exact hR1.out, hK1.out⟩
  subst q0
  have hwi := fun W => within13 N 1 8 W
  by_cases hbad : N < 1 ∨ 8 < N
  · rw [if_pos hbad] at hS0
    have hbw : betw N 1 8 = false := by
      rw [Bool.eq_false_iff]
      intro c
      have := betw_iff.1 c
      omega
    rw [hbw] at hwi
    replace h := Lib.hid h; replace hB := Lib.hid hB; replace hki := Lib.hid hki; replace hN := Lib.hid hN; replace hl1 := Lib.hid hl1; replace he1 := Lib.hid he1; replace hS0 := Lib.hid hS0; replace hbad := Lib.hid hbad; replace hrbw := Lib.hid hrbw; replace hwi := Lib.hid hwi; replace hbw := Lib.hid hbw
    go_enter Tryz.func56, Tryz.ntmps56
    go_wp2_with fail
    refine hki.out.mono ?_
    rintro en w1 ⟨rfl, hR1, hK1⟩
    have hF := xfail_any hR1 130
    obtain ⟨so1, n1, c1, a1, _⟩ := hR1.ex
    have y1 : w1.cell? ⟨rb, 1, none⟩ = some (.int .i64 0) := blk_cell a1 1
    replace hR1 := Lib.hid hR1; replace hK1 := Lib.hid hK1; replace hF := Lib.hid hF; replace a1 := Lib.hid a1
    go_wp2_with fail
    refine (hwi.out _).mono ?_
    rintro en w2 ⟨rfl, rfl⟩
    go_wp2_with fail
    refine hF.out.mono ?_
    rintro en w3 ⟨rfl, hR2, hK2⟩
    have hKK := hK1.out.trans hK2
    have hR3 : Rdx w3 rb B [] 130 := hR2
    obtain ⟨so3, n3, c3, a3, _⟩ := hR3.ex
    have z1 : w3.cell? ⟨rb, 1, none⟩ = some (.int .i64 130) := blk_cell a3 1
    have hS1 : specsR l e = ([], [], 130) := hS0.out
    clear y1
    replace hR2 := Lib.hid hR2; replace hK2 := Lib.hid hK2; replace hKK := Lib.hid hKK; replace hR3 := Lib.hid hR3; replace a3 := Lib.hid a3; replace hS1 := Lib.hid hS1
    go_wp2
    go_loopw [4, 5] (fun ov iv wr => ov = .slice none 0 0 ∧ iv = .int .i64 0 ∧ Hid (wr = w3)) (fun _ _ _ => 0)
    case atStart => exact ⟨rfl, rfl, rfl⟩
    case round =>
      obtain ⟨rfl, rfl, hw⟩ := hrel
      have hw2 := hw.out
      subst hw2
      by_cases c0 : 0 < N
      · have c1 : decide ((0 : Int) < N) = true := decide_eq_true c0
        go_wp2
        go_ret
        exact ⟨none, 0, 0, rfl, Nat.le_refl _, [], ⟨rfl, by omega, fun i x h => by simp at h⟩, by rw [hS1.out]; rfl, fun b o e => (by cases e), fun x hx => (by cases hx), by rw [hS1.out]; exact hR3.out, hKK.out⟩
      · have c1 : decide ((0 : Int) < N) = false := decide_eq_false c0
        go_wp2
        go_ret
        exact ⟨none, 0, 0, rfl, Nat.le_refl _, [], ⟨rfl, by omega, fun i x h => by simp at h⟩, by rw [hS1.out]; rfl, fun b o e => (by cases e), fun x hx => (by cases hx), by rw [hS1.out]; exact hR3.out, hKK.out⟩
  rw [if_neg hbad] at hS0
  obtain ⟨nn, hnn⟩ : ∃ nn : Nat, N = nn := ⟨N.toNat, by omega⟩
  subst hnn
  have hn8 : nn ≤ 8 := by omega
  have hbw : betw (nn : Int) 1 8 = true := betw_iff.2 (by omega)
  rw [hbw] at hwi
  rw [Int.toNat_natCast] at hS0
  replace h := Lib.hid h; replace hB := Lib.hid hB; replace hki := Lib.hid hki; replace hN := Lib.hid hN; replace hl1 := Lib.hid hl1; replace he1 := Lib.hid he1; replace hS0 := Lib.hid hS0; replace hbad := Lib.hid hbad; replace hrbw := Lib.hid hrbw; replace hwi := Lib.hid hwi; replace hbw := Lib.hid hbw; replace hi28 := Lib.hid hi28; replace hz28 := Lib.hid hz28; replace hz281 := Lib.hid hz281; replace hz282 := Lib.hid hz282
  go_enter Tryz.func56, Tryz.ntmps56
  go_wp2_with fail
  refine hki.out.mono ?_
  rintro en w1 ⟨rfl, hR1, hK1⟩
  have hL1 : SxL w rb B l1 0 (.slice none 0 0) [] w1 := ⟨hR1, ⟨rfl, .inl ⟨rfl, rfl⟩⟩, ⟨fun x hx => (by cases hx), fun x hx => (by cases hx)⟩, hK1⟩
  obtain ⟨so1, n1, c1, a1, _⟩ := hR1.ex
  have y1 : w1.cell? ⟨rb, 1, none⟩ = some (.int .i64 0) := blk_cell a1 1
  replace hR1 := Lib.hid hR1; replace hK1 := Lib.hid hK1; replace hL1 := Lib.hid hL1; replace a1 := Lib.hid a1
  go_wp2_with fail
  refine (hwi.out _).mono ?_
  rintro en w2 ⟨rfl, rfl⟩
  clear y1
  go_wp2
  go_loopw [4, 5, 6, 7, 8, 9] (fun ov iv _ _ _ _ wr => ∃ (k : Nat) (xs : List Spv) (l' : List UInt8) (e' : Int) (so : Option Addr) (c : Nat), ov = .slice so k c ∧ iv = .int .i64 k ∧ k ≤ nn ∧ Hid (xs.length = k) ∧ Hid (specsR l e = (xs.map Spv.pl ++ (spsR (nn - k) l' e').1, (spsR (nn - k) l' e').2)) ∧ Hid (SxL w rb B l' e' (.slice so k c) xs wr)) (fun _ iv _ _ _ _ _ => nn - (intOf iv).toNat)
  case atStart => exact ⟨0, [], l1, 0, none, 0, rfl, rfl, Nat.zero_le _, rfl, by rw [hS0.out]; rfl, hL1.out⟩
  case round =>
    obtain ⟨k, xs, l', e', so, c, rfl, rfl, hk, hxl, hS, hL⟩ := hrel
    rename World => wo
    by_cases hkn : k < nn
    rotate_left
    · have g1 : decide ((k : Int) < (nn : Int)) = false := decide_eq_false (by omega)
      have g1' : decide (k < nn) = false := decide_eq_false hkn
      have hS2 : specsR l e = (xs.map Spv.pl, l', e') := by rw [hS.out, show nn - k = 0 by omega]; simp [spsR]
      obtain ⟨so2, c2, hv2, hnc2, hsps⟩ := ownS_sps hL.out.own hL.out.sp.ok
      injection hv2 with hv3 hv4 hv5
      replace hS2 := Lib.hid hS2; replace hnc2 := Lib.hid hnc2; replace hsps := Lib.hid hsps; replace hkn := Lib.hid hkn; replace hv3 := Lib.hid hv3; replace hv4 := Lib.hid hv4; replace hv5 := Lib.hid hv5
      go_wp2
      go_ret
      refine ⟨so, k, c, xs, rfl, by rw [hv5.out, ← hxl.out]; exact hnc2.out, by rw [hv3.out, ← hxl.out]; exact hsps.out, by rw [hS2.out], fun b o e => ?_, fun x hx ha b o e => (hL.out.sp.fr x hx ha b o e).1, by rw [hS2.out]; exact hL.out.rd, hL.out.kp⟩
      exact (ownS_lt hL.out.own b (by rw [e]; rfl)).1
    have g1 : decide ((k : Int) < (nn : Int)) = true := decide_eq_true (by omega)
    have g1' : decide (k < nn) = true := decide_eq_true hkn
    obtain ⟨so1, n1, c1, a1, _⟩ := hL.out.rd.ex
    have y1 : wo.cell? ⟨rb, 1, none⟩ = some (.int .i64 e') := blk_cell a1 1
    replace a1 := Lib.hid a1
    by_cases q : e' = 0
    rotate_left
    · have g2 : (e' == (0 : Int)) = false := beq_eq_false_iff_ne.2 q
      have hS2 : specsR l e = (xs.map Spv.pl, l', e') := by rw [hS.out, spsR_err q]; simp
      obtain ⟨so2, c2, hv2, hnc2, hsps⟩ := ownS_sps hL.out.own hL.out.sp.ok
      injection hv2 with hv3 hv4 hv5
      replace hS2 := Lib.hid hS2; replace hnc2 := Lib.hid hnc2; replace hsps := Lib.hid hsps; replace hv3 := Lib.hid hv3; replace hv4 := Lib.hid hv4; replace hv5 := Lib.hid hv5; replace q := Lib.hid q; replace hkn := Lib.hid hkn
      go_wp2
      go_ret
      refine ⟨so, k, c, xs, rfl, by rw [hv5.out, ← hxl.out]; exact hnc2.out, by rw [hv3.out, ← hxl.out]; exact hsps.out, by rw [hS2.out], fun b o e => ?_, fun x hx ha b o e => (hL.out.sp.fr x hx ha b o e).1, by rw [hS2.out]; exact hL.out.rd, hL.out.kp⟩
      exact (ownS_lt hL.out.own b (by rw [e]; rfl)).1
    subst q
    have g2 : ((0 : Int) == (0 : Int)) = true := rfl
    have hTx := xtxt_any hL.out.rd 4096 (by decide)
    obtain ⟨t, htt⟩ : ∃ t, t = (textR l' 0 4096).1 := ⟨_, rfl⟩
    obtain ⟨l2, hl2⟩ : ∃ l2, l2 = (textR l' 0 4096).2.1 := ⟨_, rfl⟩
    obtain ⟨e2, he2⟩ : ∃ e2, e2 = (textR l' 0 4096).2.2 := ⟨_, rfl⟩
    rw [← htt, ← hl2, ← he2] at hTx
    obtain ⟨T, hT'⟩ : ∃ T, T = ofL t := ⟨_, rfl⟩
    rw [← hT'] at hTx
    have hT : ofL (textR l' 0 4096).1 = T := by rw [hT', htt]
    obtain ⟨P, hP'⟩ : ∃ P, P = parseOf T := ⟨_, rfl⟩
    have hP : parseOf T = P := hP'.symm
    obtain ⟨bad, hbd⟩ : ∃ bad, bad = badT t := ⟨_, rfl⟩
    have haf : aftT l' 0 = if bad = true then (failL l2 e2 130, failE e2 130) else (l2, e2) := by
      have hpr : (textR l' 0 4096).2 = (l2, e2) := by rw [hl2, he2]
      unfold aftT
      rw [← htt, ← hbd, hpr]
    have hbd2 : bad = (decide (P.2.1 ≠ 0) || decide (ofL (textS P.1) ≠ T)) := by rw [hbd, ← hP, hT']; rfl
    have hpa : ∀ W, Kept rb w W → Calls Tryz.prog 93 #[.string T] W (ParsePost T W) := fun W hk => rparse_any T W
    unfold ParsePost at hpa
    rw [hP] at hpa
    replace hTx := Lib.hid hTx; replace htt := Lib.hid htt; replace hl2 := Lib.hid hl2; replace he2 := Lib.hid he2; replace hT' := Lib.hid hT'; replace hT := Lib.hid hT; replace hP' := Lib.hid hP'; replace hP := Lib.hid hP; replace hbd := Lib.hid hbd; replace haf := Lib.hid haf; replace hbd2 := Lib.hid hbd2; replace hpa := Lib.hid hpa; replace hkn := Lib.hid hkn
    go_wp2_with fail
    refine hTx.out.mono ?_
    rintro en w3 ⟨rfl, hR3, hK3⟩
    clear y1
    have hL3 := hL.out.kept hK3 hrbw.out hR3
    replace hR3 := Lib.hid hR3; replace hK3 := Lib.hid hK3; replace hL3 := Lib.hid hL3
    go_wp2_with fail
    refine (hpa.out _ hL3.out.kp).mono ?_
    rintro en w4 ⟨x, rfl, hx4, hxp4, hb4, hfr4⟩
    have hL4 := hL3.out.low hb4
    obtain ⟨⟨user, part, nodes, ⟨da, db, dc, dd⟩, wall, prio, array, retries, held, after⟩, sso, sn, scp⟩ := x
    obtain ⟨sb, hsb⟩ : ∃ sb, sb = w4.heap.size := ⟨_, rfl⟩
    obtain ⟨W5, hW5⟩ : ∃ W5, W5 = w4.alloc (.cells (⟨⟨user, part, nodes, ⟨da, db, dc, dd⟩, wall, prio, array, retries, held, after⟩, sso, sn, scp⟩ : Spv).cells 26 (0, 0)) := ⟨_, rfl⟩
    have hb5 : Below w4.heap.size w4 W5 := by rw [hW5]; exact (Below.refl _ _).alloc (Nat.le_refl _) _
    have hL5 := hL4.low hb5
    have hx5 := hx4.low hb5
    have hXd5 : W5.heap[sb]? = some (.cells (⟨⟨user, part, nodes, ⟨da, db, dc, dd⟩, wall, prio, array, retries, held, after⟩, sso, sn, scp⟩ : Spv).cells 26 (0, 0)) := by rw [hW5, hsb]; exact blk_new _ _
    have hLt : ∀ b, (Value.slice so k c).ownBlock = some b → b < w3.heap.size := fun b hb => (ownS_lt hL3.out.own b hb).2
    have hXf : ∀ b o, sso = some ⟨b, o, none⟩ → w.heap.size ≤ b ∧ w3.heap.size ≤ b := fun b o e => by
      have h1 := hfr4 b o e
      have h2 := hL3.out.kp.size
      exact ⟨by omega, h1⟩
    have hXe : (⟨user, part, nodes, ⟨da, db, dc, dd⟩, wall, prio, array, retries, held, after⟩ : Spp) = P.1 := hxp4
    have htx : Calls Tryz.prog 50 #[(⟨⟨user, part, nodes, ⟨da, db, dc, dd⟩, wall, prio, array, retries, held, after⟩, sso, sn, scp⟩ : Spv).val] W5 fun e w' => e = .returned (.string (ofL (textS P.1))) ∧ Below W5.heap.size W5 w' := by
      rw [← hXe]
      exact rstext_any (⟨⟨user, part, nodes, ⟨da, db, dc, dd⟩, wall, prio, array, retries, held, after⟩, sso, sn, scp⟩ : Spv) W5 hx5
    obtain ⟨pe, hpe⟩ : ∃ pe, pe = P.2.1 := ⟨_, rfl⟩
    obtain ⟨TS, hTS⟩ : ∃ TS, TS = ofL (textS P.1) := ⟨_, rfl⟩
    rw [← hTS] at htx
    rw [← hpe]
    have hbd3 : bad = (decide (pe ≠ 0) || decide (TS ≠ T)) := by rw [hbd2.out, ← hpe, ← hTS]
    have x0 : W5.cell? ⟨sb, 0, none⟩ = some (.string user) := blk_cell hXd5 0
    have x1 : W5.cell? ⟨sb, 1, none⟩ = some (.string part) := blk_cell hXd5 1
    have x2 : W5.cell? ⟨sb, 2, none⟩ = some (.int .i64 nodes) := blk_cell hXd5 2
    have x3 : W5.cell? ⟨sb, 3, none⟩ = some (.int .i64 da) := blk_cell hXd5 3
    have x4 : W5.cell? ⟨sb, 4, none⟩ = some (.int .i64 db) := blk_cell hXd5 4
    have x5 : W5.cell? ⟨sb, 5, none⟩ = some (.int .i64 dc) := blk_cell hXd5 5
    have x6 : W5.cell? ⟨sb, 6, none⟩ = some (.int .i64 dd) := blk_cell hXd5 6
    have x7 : W5.cell? ⟨sb, 7, none⟩ = some (.int .i64 wall) := blk_cell hXd5 7
    have x8 : W5.cell? ⟨sb, 8, none⟩ = some (.int .i64 prio) := blk_cell hXd5 8
    have x9 : W5.cell? ⟨sb, 9, none⟩ = some (.int .i64 array) := blk_cell hXd5 9
    have x10 : W5.cell? ⟨sb, 10, none⟩ = some (.int .i64 retries) := blk_cell hXd5 10
    have x11 : W5.cell? ⟨sb, 11, none⟩ = some (.bool held) := blk_cell hXd5 11
    have x12 : W5.cell? ⟨sb, 12, none⟩ = some (.slice sso sn scp) := blk_cell hXd5 12
    have hW5' := Lib.hid hW5
    have hsb' := Lib.hid hsb
    clear hW5 hsb
    obtain ⟨so5, n5, c5, a5, _⟩ := hL5.rd.ex
    have y5 : W5.cell? ⟨rb, 1, none⟩ = some (.int .i64 e2) := blk_cell a5 1
    obtain ⟨bz, hbz⟩ : ∃ bz, bz = (decide (e2 = 0) && bad) := ⟨_, rfl⟩
    replace hx4 := Lib.hid hx4; replace hxp4 := Lib.hid hxp4; replace hb4 := Lib.hid hb4; replace hfr4 := Lib.hid hfr4; replace hL4 := Lib.hid hL4; replace hb5 := Lib.hid hb5; replace hL5 := Lib.hid hL5; replace hx5 := Lib.hid hx5; replace hXd5 := Lib.hid hXd5; replace hLt := Lib.hid hLt; replace hXf := Lib.hid hXf; replace hXe := Lib.hid hXe; replace htx := Lib.hid htx; replace hpe := Lib.hid hpe; replace hTS := Lib.hid hTS; replace hbd3 := Lib.hid hbd3; replace a5 := Lib.hid a5; replace hbz := Lib.hid hbz
    go_upto_region 10 with fail
    rw [← hW5'.out, ← hsb'.out]
    go_cut [58] from 44 to 59 (fun bv wx => RwC W5 bz bv wx)
    case first =>
      by_cases q0 : e2 = 0
      rotate_left
      · have g0 : (e2 == (0 : Int)) = false := beq_eq_false_iff_ne.2 q0
        have hbf : bz = false := by rw [hbz.out, decide_eq_false q0]; rfl
        replace q0 := Lib.hid q0; replace hbf := Lib.hid hbf
        go_wp2
        go_meet
        exact ⟨by rw [hbf.out], Below.refl _ _⟩
      have g0 : (e2 == (0 : Int)) = true := by rw [q0]; rfl
      have hbb : bz = bad := by rw [hbz.out, decide_eq_true q0, Bool.true_and]
      replace q0 := Lib.hid q0; replace hbb := Lib.hid hbb
      by_cases q1 : pe = 0
      · have g3 : (pe != (0 : Int)) = false := by rw [q1]; rfl
        replace q1 := Lib.hid q1
        go_wp2_with fail
        refine htx.out.mono ?_
        rintro en w6 ⟨rfl, hb6⟩
        by_cases q2 : TS = T
        · have d := str_eq q2
          have hbf : bz = false := by rw [hbb.out, hbd3.out, decide_eq_false (by simpa using q1.out), decide_eq_false (by simpa using q2)]; rfl
          replace hb6 := Lib.hid hb6; replace q2 := Lib.hid q2; replace hbf := Lib.hid hbf
          go_wp2
          go_meet
          exact ⟨by rw [hbf.out], hb6.out⟩
        · have d := str_ne q2
          have hbf : bz = true := by rw [hbb.out, hbd3.out, decide_eq_true q2, Bool.or_true]
          replace hb6 := Lib.hid hb6; replace q2 := Lib.hid q2; replace hbf := Lib.hid hbf
          go_wp2
          go_meet
          exact ⟨by rw [hbf.out], hb6.out⟩
      · have g3 : (pe != (0 : Int)) = true := by rw [bne_iff_ne]; exact q1
        have hbf : bz = true := by rw [hbb.out, hbd3.out, decide_eq_true q1, Bool.true_or]
        replace q1 := Lib.hid q1; replace hbf := Lib.hid hbf
        go_wp2
        go_meet
        exact ⟨by rw [hbf.out], Below.refl _ _⟩
    case rest =>
    obtain ⟨rfl, hbc⟩ := hcut
    have hLc := hL5.out.low hbc
    have hXc := blk_below hbc hXd5.out (blk_lt hXd5.out)
    have hXo := hx5.out.low hbc
    clear x0 x1 x2 x3 x4 x5 x6 x7 x8 x9 x10 x11 x12
    clear y5
    cases bz with
    | true =>
      have hF := xfail_any hLc.rd 130
      replace hbc := Lib.hid hbc; replace hLc := Lib.hid hLc; replace hXc := Lib.hid hXc; replace hXo := Lib.hid hXo; replace hF := Lib.hid hF
      go_wp2_with fail
      refine hF.out.mono ?_
      rintro en wz ⟨rfl, hRz, hKz⟩
      obtain ⟨lz, hlz⟩ : ∃ lz, lz = failL l2 e2 130 := ⟨_, rfl⟩
      obtain ⟨ez, hez⟩ : ∃ ez, ez = failE e2 130 := ⟨_, rfl⟩
      rw [← hlz, ← hez] at hRz
      have hLz := hLc.out.kept hKz hrbw.out hRz
      have haft : aftT l' 0 = (lz, ez) := haf.out.trans (by rw [hlz, hez, if_pos (Bool.and_eq_true_iff.1 hbz.out.symm).2])
      have hsbn : sb ≠ rb := by
        have h1 := hL4.out.kp.size
        have h2 := hsb'.out
        have h3 := hrbw.out
        omega
      have hXd := hKz.blk hXc.out hsbn
      have hXok : (⟨⟨user, part, nodes, ⟨da, db, dc, dd⟩, wall, prio, array, retries, held, after⟩, sso, sn, scp⟩ : Spv).ok wz := by
        refine ⟨hXo.out.after.keep hKz.size fun b off e _ hlt => hKz.block b hlt ?_, hXo.out.ple, hXo.out.user, hXo.out.part⟩
        have h1 := (hXf.out b off e).1
        have h3 := hrbw.out
        omega
      replace hRz := Lib.hid hRz; replace hKz := Lib.hid hKz; replace hLz := Lib.hid hLz; replace haft := Lib.hid haft; replace hXd := Lib.hid hXd; replace hXok := Lib.hid hXok; replace hsbn := Lib.hid hsbn; replace hlz := Lib.hid hlz; replace hez := Lib.hid hez
      obtain ⟨X, hX⟩ : ∃ X : Spv, X = (⟨⟨user, part, nodes, ⟨da, db, dc, dd⟩, wall, prio, array, retries, held, after⟩, sso, sn, scp⟩ : Spv) := ⟨_, rfl⟩
      have hsp13 := hXd.out
      have s0 : wz.cell? ⟨sb, 0, none⟩ = some (.string user) := blk_cell hsp13 0
      have s1 : wz.cell? ⟨sb, 1, none⟩ = some (.string part) := blk_cell hsp13 1
      have s2 : wz.cell? ⟨sb, 2, none⟩ = some (.int .i64 nodes) := blk_cell hsp13 2
      have s3 : wz.cell? ⟨sb, 3, none⟩ = some (.int .i64 da) := blk_cell hsp13 3
      have s4 : wz.cell? ⟨sb, 4, none⟩ = some (.int .i64 db) := blk_cell hsp13 4
      have s5 : wz.cell? ⟨sb, 5, none⟩ = some (.int .i64 dc) := blk_cell hsp13 5
      have s6 : wz.cell? ⟨sb, 6, none⟩ = some (.int .i64 dd) := blk_cell hsp13 6
      have s7 : wz.cell? ⟨sb, 7, none⟩ = some (.int .i64 wall) := blk_cell hsp13 7
      have s8 : wz.cell? ⟨sb, 8, none⟩ = some (.int .i64 prio) := blk_cell hsp13 8
      have s9 : wz.cell? ⟨sb, 9, none⟩ = some (.int .i64 array) := blk_cell hsp13 9
      have s10 : wz.cell? ⟨sb, 10, none⟩ = some (.int .i64 retries) := blk_cell hsp13 10
      have s11 : wz.cell? ⟨sb, 11, none⟩ = some (.bool held) := blk_cell hsp13 11
      have s12 : wz.cell? ⟨sb, 12, none⟩ = some (.slice sso sn scp) := blk_cell hsp13 12
      obtain ⟨W8, hW8⟩ : ∃ W8, W8 = wz.alloc (.cells (⟨⟨user, part, nodes, ⟨da, db, dc, dd⟩, wall, prio, array, retries, held, after⟩, sso, sn, scp⟩ : Spv).cells 26 (0, 0)) := ⟨_, rfl⟩
      have hb8 : Below wz.heap.size wz W8 := by rw [hW8]; exact (Below.refl _ _).alloc (Nat.le_refl _) _
      have hL8 := hLz.out.low hb8
      have hX8 := hXok.out.low hb8
      have hownA : W8.ownsRow w.heap.size 26 13 (.slice so k c) k (flatv Spv.cells xs) := by have := hL8.own.row; rwa [hxl.out] at this
      have hnews : ∀ j u, (⟨⟨user, part, nodes, ⟨da, db, dc, dd⟩, wall, prio, array, retries, held, after⟩, sso, sn, scp⟩ : Spv).cells.toList[j]? = some u → W8.cell? ((⟨wz.heap.size, 0, none⟩ : Addr).add j) = some u := by rw [hW8]; exact spv_new wz _
      have hone := spv_one (⟨⟨user, part, nodes, ⟨da, db, dc, dd⟩, wall, prio, array, retries, held, after⟩, sso, sn, scp⟩ : Spv)
      have h63 := maxLen_ge (n := k) (by omega)
      have hby : (k + 1) * 136 ≤ 140737488355328 := by omega
      have hbas : w.heap.size ≤ W8.heap.size := by have h1 := hL8.kp.size; omega
      rw [hW8] at hownA hnews hbas
      have hW8' := Lib.hid hW8
      clear hW8
      replace hb8 := Lib.hid hb8; replace hL8 := Lib.hid hL8; replace hX8 := Lib.hid hX8; replace hownA := Lib.hid hownA; replace hnews := Lib.hid hnews; replace hone := Lib.hid hone; replace h63 := Lib.hid h63; replace hby := Lib.hid hby; replace hbas := Lib.hid hbas; replace hX := Lib.hid hX; replace hsp13 := Lib.hid hsp13
      go_wp2_with (at_builtin; refine wpList_append_own_at _ rfl _ _ 41 rfl w.heap.size 26 i28 _ 13 136 Tryz.underlying41 hi28.out hz28.out hz281.out hz282.out rfl (by decide) _ k _ rfl hownA.out ⟨wz.heap.size, 0, none⟩ 1 1 (⟨⟨user, part, nodes, ⟨da, db, dc, dd⟩, wall, prio, array, retries, held, after⟩, sso, sn, scp⟩ : Spv).cells.toList rfl rfl hnews.out hone.out h63.out hby.out hbas.out ?_; intro v1 w9 hown9 hgrow _ hat9; obtain ⟨g9, cap1, rfl⟩ := Joins.ownsRow_form hown9 (by omega); replace hown9 := Lib.hid hown9; replace hgrow := Lib.hid hgrow; replace hat9 := Lib.hid hat9)
      have hg9 := hgrow.out
      have hat := hat9.out
      rw [← hW8'.out] at hg9 hat
      have hg9' : W8.grownBy w9 (Value.slice so k c).ownBlock := hg9
      have hat' : (Value.slice (some ⟨g9, 0, none⟩) (k + 1) cap1).ownBlock = (Value.slice so k c).ownBlock ∨ (Value.slice (some ⟨g9, 0, none⟩) (k + 1) cap1).ownBlock = some W8.heap.size := hat
      have hlow9 : Below w.heap.size W8 w9 := (Below.refl _ _).grown hg9' hL8.out.kp.size (fun q hq => (ownS_lt hL8.out.own q hq).1)
      have hL9 : SxL w rb B lz ez (.slice (some ⟨g9, 0, none⟩) (k + 1) cap1) (xs ++ [X]) w9 := by
        refine ⟨hL8.out.rd.at hlow9 hrbw.out hB.out, ⟨?_⟩, ?_, hL8.out.kp.then hlow9 (Nat.le_refl _)⟩
        · have h := hown9.out
          rw [← flatv_one Spv.cells, ← flatv_append, ← hX.out] at h
          rw [List.length_append, hxl.out]
          exact h
        · refine ((hL8.out.sp.add (x := X) (by rw [hX.out]; exact hX8.out) fun b o e => ?_).grown hg9' hat')
          rw [hX.out] at e
          have h1 := hXf.out b o e
          refine ⟨by omega, fun c => ?_⟩
          have h2 := hLt.out b c
          omega
      have hxl9 : (xs ++ [X]).length = k + 1 := by rw [List.length_append, hxl.out]; rfl
      have hXp : X.pl = P.1 := by rw [hX.out]; exact hXe.out
      have hS9 : specsR l e = (((xs ++ [X]).map Spv.pl) ++ (spsR (nn - (k + 1)) lz ez).1, (spsR (nn - (k + 1)) lz ez).2) := by
        have hk1 := hkn.out
        rw [hS.out, show nn - k = (nn - (k + 1)) + 1 by omega, spsR, if_neg (by simp), haft.out, hT.out, hP.out, List.map_append, List.map_cons, List.map_nil, hXp]
        simp
      replace hg9 := Lib.hid hg9; replace hg9' := Lib.hid hg9'; replace hat := Lib.hid hat; replace hat' := Lib.hid hat'; replace hlow9 := Lib.hid hlow9; replace hL9 := Lib.hid hL9; replace hxl9 := Lib.hid hxl9; replace hS9 := Lib.hid hS9; replace hXp := Lib.hid hXp
      clear s0 s1 s2 s3 s4 s5 s6 s7 s8 s9 s10 s11 s12
      go_wp2
      go_roundw
      case rel => exact ⟨k + 1, xs ++ [X], lz, ez, _, _, rfl, by go_num, (by have := hkn.out; omega), hxl9.out, hS9.out, hL9.out⟩
      case measure => have := hkn.out; simp [intOf]; omega
    | false =>
      rename World => wz
      obtain ⟨lz, hlz⟩ : ∃ lz, lz = l2 := ⟨_, rfl⟩
      obtain ⟨ez, hez⟩ : ∃ ez, ez = e2 := ⟨_, rfl⟩
      rw [← hlz, ← hez] at hLc
      have haft : aftT l' 0 = (lz, ez) := haf.out.trans (by
        rw [hlz, hez]
        split
        · next hb =>
          have hne : ¬ e2 = 0 := fun c => by
            have := hbz.out
            rw [hb, decide_eq_true c] at this
            cases this
          have f1 : failL l2 e2 130 = l2 := if_neg (fun c => hne c.1)
          have f2 : failE e2 130 = e2 := if_neg (fun c => hne c.1)
          rw [f1, f2]
        · rfl)
      have hLz := hLc
      have hXd := hXc
      have hXok := hXo
      replace hbc := Lib.hid hbc; replace hLc := Lib.hid hLc; replace hXc := Lib.hid hXc; replace hXo := Lib.hid hXo; replace hLz := Lib.hid hLz; replace haft := Lib.hid haft; replace hXd := Lib.hid hXd; replace hXok := Lib.hid hXok; replace hlz := Lib.hid hlz; replace hez := Lib.hid hez
      obtain ⟨X, hX⟩ : ∃ X : Spv, X = (⟨⟨user, part, nodes, ⟨da, db, dc, dd⟩, wall, prio, array, retries, held, after⟩, sso, sn, scp⟩ : Spv) := ⟨_, rfl⟩
      have hsp13 := hXd.out
      have s0 : wz.cell? ⟨sb, 0, none⟩ = some (.string user) := blk_cell hsp13 0
      have s1 : wz.cell? ⟨sb, 1, none⟩ = some (.string part) := blk_cell hsp13 1
      have s2 : wz.cell? ⟨sb, 2, none⟩ = some (.int .i64 nodes) := blk_cell hsp13 2
      have s3 : wz.cell? ⟨sb, 3, none⟩ = some (.int .i64 da) := blk_cell hsp13 3
      have s4 : wz.cell? ⟨sb, 4, none⟩ = some (.int .i64 db) := blk_cell hsp13 4
      have s5 : wz.cell? ⟨sb, 5, none⟩ = some (.int .i64 dc) := blk_cell hsp13 5
      have s6 : wz.cell? ⟨sb, 6, none⟩ = some (.int .i64 dd) := blk_cell hsp13 6
      have s7 : wz.cell? ⟨sb, 7, none⟩ = some (.int .i64 wall) := blk_cell hsp13 7
      have s8 : wz.cell? ⟨sb, 8, none⟩ = some (.int .i64 prio) := blk_cell hsp13 8
      have s9 : wz.cell? ⟨sb, 9, none⟩ = some (.int .i64 array) := blk_cell hsp13 9
      have s10 : wz.cell? ⟨sb, 10, none⟩ = some (.int .i64 retries) := blk_cell hsp13 10
      have s11 : wz.cell? ⟨sb, 11, none⟩ = some (.bool held) := blk_cell hsp13 11
      have s12 : wz.cell? ⟨sb, 12, none⟩ = some (.slice sso sn scp) := blk_cell hsp13 12
      obtain ⟨W8, hW8⟩ : ∃ W8, W8 = wz.alloc (.cells (⟨⟨user, part, nodes, ⟨da, db, dc, dd⟩, wall, prio, array, retries, held, after⟩, sso, sn, scp⟩ : Spv).cells 26 (0, 0)) := ⟨_, rfl⟩
      have hb8 : Below wz.heap.size wz W8 := by rw [hW8]; exact (Below.refl _ _).alloc (Nat.le_refl _) _
      have hL8 := hLz.out.low hb8
      have hX8 := hXok.out.low hb8
      have hownA : W8.ownsRow w.heap.size 26 13 (.slice so k c) k (flatv Spv.cells xs) := by have := hL8.own.row; rwa [hxl.out] at this
      have hnews : ∀ j u, (⟨⟨user, part, nodes, ⟨da, db, dc, dd⟩, wall, prio, array, retries, held, after⟩, sso, sn, scp⟩ : Spv).cells.toList[j]? = some u → W8.cell? ((⟨wz.heap.size, 0, none⟩ : Addr).add j) = some u := by rw [hW8]; exact spv_new wz _
      have hone := spv_one (⟨⟨user, part, nodes, ⟨da, db, dc, dd⟩, wall, prio, array, retries, held, after⟩, sso, sn, scp⟩ : Spv)
      have h63 := maxLen_ge (n := k) (by omega)
      have hby : (k + 1) * 136 ≤ 140737488355328 := by omega
      have hbas : w.heap.size ≤ W8.heap.size := by have h1 := hL8.kp.size; omega
      rw [hW8] at hownA hnews hbas
      have hW8' := Lib.hid hW8
      clear hW8
      replace hb8 := Lib.hid hb8; replace hL8 := Lib.hid hL8; replace hX8 := Lib.hid hX8; replace hownA := Lib.hid hownA; replace hnews := Lib.hid hnews; replace hone := Lib.hid hone; replace h63 := Lib.hid h63; replace hby := Lib.hid hby; replace hbas := Lib.hid hbas; replace hX := Lib.hid hX; replace hsp13 := Lib.hid hsp13
      go_wp2_with (at_builtin; refine wpList_append_own_at _ rfl _ _ 41 rfl w.heap.size 26 i28 _ 13 136 Tryz.underlying41 hi28.out hz28.out hz281.out hz282.out rfl (by decide) _ k _ rfl hownA.out ⟨wz.heap.size, 0, none⟩ 1 1 (⟨⟨user, part, nodes, ⟨da, db, dc, dd⟩, wall, prio, array, retries, held, after⟩, sso, sn, scp⟩ : Spv).cells.toList rfl rfl hnews.out hone.out h63.out hby.out hbas.out ?_; intro v1 w9 hown9 hgrow _ hat9; obtain ⟨g9, cap1, rfl⟩ := Joins.ownsRow_form hown9 (by omega); replace hown9 := Lib.hid hown9; replace hgrow := Lib.hid hgrow; replace hat9 := Lib.hid hat9)
      have hg9 := hgrow.out
      have hat := hat9.out
      rw [← hW8'.out] at hg9 hat
      have hg9' : W8.grownBy w9 (Value.slice so k c).ownBlock := hg9
      have hat' : (Value.slice (some ⟨g9, 0, none⟩) (k + 1) cap1).ownBlock = (Value.slice so k c).ownBlock ∨ (Value.slice (some ⟨g9, 0, none⟩) (k + 1) cap1).ownBlock = some W8.heap.size := hat
      have hlow9 : Below w.heap.size W8 w9 := (Below.refl _ _).grown hg9' hL8.out.kp.size (fun q hq => (ownS_lt hL8.out.own q hq).1)
      have hL9 : SxL w rb B lz ez (.slice (some ⟨g9, 0, none⟩) (k + 1) cap1) (xs ++ [X]) w9 := by
        refine ⟨hL8.out.rd.at hlow9 hrbw.out hB.out, ⟨?_⟩, ?_, hL8.out.kp.then hlow9 (Nat.le_refl _)⟩
        · have h := hown9.out
          rw [← flatv_one Spv.cells, ← flatv_append, ← hX.out] at h
          rw [List.length_append, hxl.out]
          exact h
        · refine ((hL8.out.sp.add (x := X) (by rw [hX.out]; exact hX8.out) fun b o e => ?_).grown hg9' hat')
          rw [hX.out] at e
          have h1 := hXf.out b o e
          refine ⟨by omega, fun c => ?_⟩
          have h2 := hLt.out b c
          omega
      have hxl9 : (xs ++ [X]).length = k + 1 := by rw [List.length_append, hxl.out]; rfl
      have hXp : X.pl = P.1 := by rw [hX.out]; exact hXe.out
      have hS9 : specsR l e = (((xs ++ [X]).map Spv.pl) ++ (spsR (nn - (k + 1)) lz ez).1, (spsR (nn - (k + 1)) lz ez).2) := by
        have hk1 := hkn.out
        rw [hS.out, show nn - k = (nn - (k + 1)) + 1 by omega, spsR, if_neg (by simp), haft.out, hT.out, hP.out, List.map_append, List.map_cons, List.map_nil, hXp]
        simp
      replace hg9 := Lib.hid hg9; replace hg9' := Lib.hid hg9'; replace hat := Lib.hid hat; replace hat' := Lib.hid hat'; replace hlow9 := Lib.hid hlow9; replace hL9 := Lib.hid hL9; replace hxl9 := Lib.hid hxl9; replace hS9 := Lib.hid hS9; replace hXp := Lib.hid hXp
      clear s0 s1 s2 s3 s4 s5 s6 s7 s8 s9 s10 s11 s12
      go_wp2
      go_roundw
      case rel => exact ⟨k + 1, xs ++ [X], lz, ez, _, _, rfl, by go_num, (by have := hkn.out; omega), hxl9.out, hS9.out, hL9.out⟩
      case measure => have := hkn.out; simp [intOf]; omega
end Go.Proofs.YteoihdkaoipocaaGreatDoor

/- The document's events off a reader: Take 21. Plain theorems: no condition. -/
namespace Go.Proofs.YteoihdkaoipocaaGreatDoor
open Go.RowKit Go.Maps

/-- within Take -/
structure XtW (w : World) (rb B eb : Nat) (l : List UInt8) (e : Int) (n : Evn) (wr : World) : Prop where
  rd : Rdx wr rb B l e
  box : wr.heap[eb]? = some (.cells (⟨n, none, 0, 0, []⟩ : Evv).cells 43 (0, 0))
  res : wr.heap[w.heap.size]? = some (.cells (⟨Evn.zero, none, 0, 0, []⟩ : Evv).cells 43 (0, 0))
  kp : Kept rb w wr
theorem XtW.low {w : World} {rb B eb : Nat} {l : List UInt8} {e : Int} {n : Evn} {wr w' : World} (h : XtW w rb B eb l e n wr) (hb : Below wr.heap.size wr w') : XtW w rb B eb l e n w' :=
  ⟨h.rd.low hb, blk_below hb h.box (blk_lt h.box), blk_below hb h.res (blk_lt h.res), h.kp.then hb h.kp.size⟩
theorem XtW.kept {w : World} {rb B eb : Nat} {l l' : List UInt8} {e e' : Int} {n : Evn} {wr w' : World} (h : XtW w rb B eb l e n wr) (hk : Kept rb wr w') (hr : rb < w.heap.size) (he : w.heap.size < eb) (hR : Rdx w' rb B l' e') : XtW w rb B eb l' e' n w' :=
  ⟨hR, hk.blk h.box (by omega), hk.blk h.res (by omega), h.kp.trans hk⟩
theorem XtW.set {w : World} {rb B eb : Nat} {l : List UInt8} {e : Int} {n : Evn} {wr : World} (h : XtW w rb B eb l e n wr) (hr : rb < w.heap.size) (he : w.heap.size < eb) (hB : B ≤ w.heap.size) {i : Nat} (h1 : 1 ≤ i) (h8 : i ≤ 8) (v : Int) : XtW w rb B eb l e (n.set v i) (wr.setCell ⟨eb, i, none⟩ (.int .i64 v)) := by
  have hb : Below w.heap.size wr (wr.setCell ⟨eb, i, none⟩ (.int .i64 v)) := Below.setCell (Below.refl _ _) (show w.heap.size ≤ eb by omega) _
  have hne : w.heap.size ≠ eb := by omega
  refine ⟨h.rd.at hb hr hB, ?_, blk_set_other hne _ h.res, h.kp.then hb (Nat.le_refl _)⟩
  have := evv_set (⟨n, none, 0, 0, []⟩ : Evv) h1 h8 v
  rw [← this]
  exact blk_set h.box i _
/-- within Take, behind the specs -/
structure XtV (w : World) (rb B eb : Nat) (l : List UInt8) (e : Int) (X : Evv) (wr : World) : Prop where
  rd : Rdx wr rb B l e
  box : wr.heap[eb]? = some (.cells X.cells 43 (0, 0))
  res : wr.heap[w.heap.size]? = some (.cells (⟨Evn.zero, none, 0, 0, []⟩ : Evv).cells 43 (0, 0))
  kp : Kept rb w wr
  ok : X.ok wr
  fr : EvF w.heap.size X
theorem XtV.low {w : World} {rb B eb : Nat} {l : List UInt8} {e : Int} {X : Evv} {wr w' : World} (h : XtV w rb B eb l e X wr) (hb : Below wr.heap.size wr w') : XtV w rb B eb l e X w' :=
  ⟨h.rd.low hb, blk_below hb h.box (blk_lt h.box), blk_below hb h.res (blk_lt h.res), h.kp.then hb h.kp.size, h.ok.low hb, h.fr⟩
theorem XtV.kept {w : World} {rb B eb : Nat} {l l' : List UInt8} {e e' : Int} {X : Evv} {wr w' : World} (h : XtV w rb B eb l e X wr) (hk : Kept rb wr w') (hr : rb < w.heap.size) (he : w.heap.size < eb) (hR : Rdx w' rb B l' e') : XtV w rb B eb l' e' X w' :=
  ⟨hR, hk.blk h.box (by omega), hk.blk h.res (by omega), h.kp.trans hk, h.ok.kept h.fr hk (by omega), h.fr⟩
structure XtC (w : World) (rb B eb : Nat) (l : List UInt8) (e : Int) (n : Evn) (sp : List Spp) (wr : World) : Prop where
  ex : ∃ X : Evv, XtV w rb B eb l e X wr ∧ X.n = n ∧ X.sps.map Spv.pl = sp
def XkPost (rb B : Nat) (l : List UInt8) (e : Int) (w : World) (en : Ending) (w' : World) : Prop :=
  ∃ X : Evv, en = .returned X.val ∧ X.ok w' ∧ X.pl = (takeR l e).1 ∧ Rdx w' rb B (takeR l e).2.1 (takeR l e).2.2 ∧ Kept rb w w'
theorem XtW.toV {w : World} {rb B eb : Nat} {l : List UInt8} {e : Int} {n : Evn} {wr : World} (h : XtW w rb B eb l e n wr) (hr : Rng n) : XtV w rb B eb l e ⟨n, none, 0, 0, []⟩ wr :=
  ⟨h.rd, h.box, h.res, h.kp, ⟨sps_none wr, Nat.le_refl _, hr⟩, ⟨fun b o e => (by cases e), fun x hx => (by cases hx)⟩⟩
set_option maxRecDepth 100000 in
set_option maxHeartbeats 6400000 in
theorem xtake_any {w : World} {rb B : Nat} {l : List UInt8} {e : Int} (h : Rdx w rb B l e) (hB : B ≤ w.heap.size) : Calls Tryz.prog 21 #[.pointer (some ⟨rb, 0, none⟩)] w (XkPost rb B l e w) := by
  have hrbw := h.lt
  obtain ⟨W1, hW1⟩ : ∃ W1, W1 = w.alloc (.cells (⟨Evn.zero, none, 0, 0, []⟩ : Evv).cells 43 (0, 0)) := ⟨_, rfl⟩
  have hb1 : Below w.heap.size w W1 := by rw [hW1]; exact (Below.refl _ _).alloc (Nat.le_refl _) _
  have hres : W1.heap[w.heap.size]? = some (.cells (⟨Evn.zero, none, 0, 0, []⟩ : Evv).cells 43 (0, 0)) := by rw [hW1]; exact blk_new _ _
  have hki := xint_any (h.low hb1)
  obtain ⟨k, hk⟩ : ∃ k, k = (intR l e).1 := ⟨_, rfl⟩
  obtain ⟨l1, hl1⟩ : ∃ l1, l1 = (intR l e).2.1 := ⟨_, rfl⟩
  obtain ⟨e1, he1⟩ : ∃ e1, e1 = (intR l e).2.2 := ⟨_, rfl⟩
  rw [← hk, ← hl1, ← he1] at hki
  rw [hW1] at hki
  have hW1' := Lib.hid hW1
  clear hW1
  replace h := Lib.hid h; replace hB := Lib.hid hB; replace hki := Lib.hid hki; replace hk := Lib.hid hk; replace hl1 := Lib.hid hl1; replace he1 := Lib.hid he1; replace hb1 := Lib.hid hb1; replace hres := Lib.hid hres; replace hrbw := Lib.hid hrbw
  go_enter Tryz.func21, Tryz.ntmps21
  go_wp2_with fail
  refine hki.out.mono ?_
  rintro en w2 ⟨rfl, hR2, hK2⟩
  rw [← hW1'.out] at hK2
  have hkp2 : Kept rb w w2 := (Kept.of_below hb1.out).trans hK2
  have hres2 := hK2.blk hres.out (by have := hrbw.out; omega)
  have hsz1 : W1.heap.size = w.heap.size + 1 := by rw [hW1'.out]; simp
  obtain ⟨eb, heb⟩ : ∃ eb, eb = w2.heap.size := ⟨_, rfl⟩
  have hebw : w.heap.size < eb := by have := hK2.size; omega
  obtain ⟨W3, hW3⟩ : ∃ W3, W3 = w2.alloc (.cells #[.int .i64 k, .int .i64 0, .int .i64 0, .int .i64 0, .int .i64 0, .int .i64 0, .int .i64 0, .int .i64 0, .int .i64 0, .slice none 0 0] 43 (0, 0)) := ⟨_, rfl⟩
  have hb3 : Below w2.heap.size w2 W3 := by rw [hW3]; exact (Below.refl _ _).alloc (Nat.le_refl _) _
  have hT3 : XtW w rb B eb l1 e1 (Evn.ofKind k) W3 := ⟨hR2.low hb3, by rw [hW3, heb]; exact blk_new _ _, blk_below hb3 hres2 (blk_lt hres2), hkp2.then hb3 hkp2.size⟩
  have hW3' := Lib.hid hW3
  have heb' := Lib.hid heb
  clear hW3 heb
  obtain ⟨bk, hbk⟩ : ∃ bk, bk = betw k 1 11 := ⟨_, rfl⟩
  have hwi := fun W => within13 k 1 11 W
  rw [← hbk] at hwi
  have hwi' : ∀ W, Calls Tryz.prog 43 #[.int .i64 k, .int .i64 1, .int .i64 11] W fun e w' => e = .returned (.bool bk) ∧ w' = W := hwi
  have hfk : fldsOf k = none ↔ bk = false := by
    rw [hbk]
    constructor
    · intro hf
      rw [Bool.eq_false_iff]
      intro c
      have hc := betw_iff.1 c
      have : k = 1 ∨ k = 2 ∨ k = 3 ∨ k = 4 ∨ k = 5 ∨ k = 6 ∨ k = 7 ∨ k = 8 ∨ k = 9 ∨ k = 10 ∨ k = 11 := by omega
      rcases this with h | h | h | h | h | h | h | h | h | h | h <;> rw [h] at hf <;> cases hf
    · intro hb
      have hn : ¬ (1 ≤ k ∧ k ≤ 11) := fun c => by rw [betw_iff.2 c] at hb; cases hb
      unfold fldsOf
      rw [if_neg (by omega), if_neg (by omega), if_neg (by omega), if_neg (by omega), if_neg (by omega), if_neg (by omega), if_neg (by omega)]
  obtain ⟨la, hla⟩ : ∃ la, la = (afterK l e).1 := ⟨_, rfl⟩
  obtain ⟨ea, hea⟩ : ∃ ea, ea = (afterK l e).2 := ⟨_, rfl⟩
  have hA1 : bk = false → la = failL l1 e1 130 ∧ ea = failE e1 130 := fun hb => by
    rw [hla, hea]
    unfold afterK
    rw [← hk.out, hfk.2 hb, ← hl1.out, ← he1.out]
    exact ⟨rfl, rfl⟩
  have hA2 : bk = true → la = l1 ∧ ea = e1 := fun hb => by
    rw [hla, hea]
    unfold afterK
    rw [← hk.out]
    cases hf : fldsOf k with
    | none => rw [hfk.1 hf] at hb; cases hb
    | some fs => rw [← hl1.out, ← he1.out]; exact ⟨rfl, rfl⟩
  obtain ⟨so3, n3', c3', a3, _⟩ := hT3.rd.ex
  have t3 : W3.cell? ⟨rb, 1, none⟩ = some (.int .i64 e1) := blk_cell a3 1
  have y0 : W3.cell? ⟨eb, 0, none⟩ = some (.int .i64 k) := blk_cell hT3.box 0
  have hF3 := xfail_any hT3.rd 130
  obtain ⟨q, hq⟩ : ∃ q, q = clientK k := ⟨_, rfl⟩
  have hrc : ∀ W, Calls Tryz.prog 18 #[.int .i64 k] W fun e w' => e = .returned (.bool q) ∧ w' = W := fun W => by rw [hq]; exact rclient_any k W
  obtain ⟨n2, hn2⟩ : ∃ n2, n2 = (if q = true then fldsR (Evn.ofKind k) [fldCl, fldSq] la ea else (Evn.ofKind k, la, ea)).1 := ⟨_, rfl⟩
  obtain ⟨l2, hl2⟩ : ∃ l2, l2 = (if q = true then fldsR (Evn.ofKind k) [fldCl, fldSq] la ea else (Evn.ofKind k, la, ea)).2.1 := ⟨_, rfl⟩
  obtain ⟨e2, he2⟩ : ∃ e2, e2 = (if q = true then fldsR (Evn.ofKind k) [fldCl, fldSq] la ea else (Evn.ofKind k, la, ea)).2.2 := ⟨_, rfl⟩
  have hRk : Rng (Evn.ofKind k) := rng_kind (by rw [hk.out]; exact intR_bd _ _)
  have hg2 : Rng n2 := by
    rw [hn2]
    split
    · exact rng_set (rng_set hRk (intR_bd _ _) _) (intR_bd _ _) _
    · exact hRk
  obtain ⟨n, hnn⟩ : ∃ n, n = (numsR l e).1 := ⟨_, rfl⟩
  obtain ⟨sp, hsp⟩ : ∃ sp, sp = (spcsR l e).1 := ⟨_, rfl⟩
  obtain ⟨l5, hl5⟩ : ∃ l5, l5 = (spcsR l e).2.1 := ⟨_, rfl⟩
  obtain ⟨e5, he5⟩ : ∃ e5, e5 = (spcsR l e).2.2 := ⟨_, rfl⟩
  have hraw : rawR l e = ⟨n, sp⟩ := by unfold rawR; rw [hnn, hsp]
  have hlst : lastR l e = if mayE ⟨n, sp⟩ = true then (l5, e5) else (failL l5 e5 130, failE e5 130) := by unfold lastR; rw [hraw, hl5, he5]
  have hnf : ∀ n' l' e', k ≠ 2 → numsR l e = (n', l', e') → n = n' ∧ sp = [] ∧ l5 = l' ∧ e5 = e' := fun n' l' e' h2 hm => by
    have : spcsR l e = ([], l', e') := by unfold spcsR; rw [← hk.out, if_neg h2, hm]
    rw [hnn, hsp, hl5, he5, this, hm]
    exact ⟨rfl, rfl, rfl, rfl⟩
  have hnq : ∀ fs fs', fldsOf k = some fs → fs = (if q = true then [fldCl, fldSq] else []) ++ fs' → numsR l e = fldsR n2 fs' l2 e2 := fun fs fs' hf hfs => by
    have : numsR l e = fldsR (Evn.ofKind k) fs la ea := by unfold numsR; rw [← hk.out, hf, hla, hea]; rfl
    rw [this, hfs, hn2, hl2, he2]
    cases q <;> rfl
  have hnz : bk = false → numsR l e = (Evn.ofKind k, la, ea) := fun hb => by
    unfold numsR
    rw [← hk.out, hfk.2 hb, hla, hea]
    rfl
  have hn2q : q = false → n2 = Evn.ofKind k ∧ l2 = la ∧ e2 = ea := fun hq => by rw [hn2, hl2, he2, hq]; exact ⟨rfl, rfl, rfl⟩
  have hn2t : q = true → fldsR (Evn.ofKind k) [fldCl, fldSq] la ea = (n2, l2, e2) := fun hq => by rw [hn2, hl2, he2, hq]; rfl
  have hkn2 : n2.kind = k := by
    rw [hn2]
    split
    · simp only [fldsR, set_kind]; rfl
    · rfl
  clear hn2 hl2 he2 hwi
  replace hkn2 := Lib.hid hkn2
  replace hR2 := Lib.hid hR2; replace hK2 := Lib.hid hK2; replace hkp2 := Lib.hid hkp2; replace hres2 := Lib.hid hres2; replace hsz1 := Lib.hid hsz1; replace hebw := Lib.hid hebw; replace hb3 := Lib.hid hb3; replace hT3 := Lib.hid hT3; replace hbk := Lib.hid hbk; replace hwi' := Lib.hid hwi'; replace hfk := Lib.hid hfk; replace hla := Lib.hid hla; replace hea := Lib.hid hea; replace hA1 := Lib.hid hA1; replace hA2 := Lib.hid hA2; replace a3 := Lib.hid a3; replace hF3 := Lib.hid hF3; replace hq := Lib.hid hq; replace hrc := Lib.hid hrc; replace hRk := Lib.hid hRk; replace hg2 := Lib.hid hg2; replace hnn := Lib.hid hnn; replace hsp := Lib.hid hsp; replace hl5 := Lib.hid hl5; replace he5 := Lib.hid he5; replace hraw := Lib.hid hraw; replace hlst := Lib.hid hlst; replace hnf := Lib.hid hnf; replace hnq := Lib.hid hnq; replace hnz := Lib.hid hnz; replace hn2q := Lib.hid hn2q; replace hn2t := Lib.hid hn2t
  go_upto_region 2 with fail
  rw [← hW3'.out, ← heb'.out]
  obtain ⟨bz, hbz⟩ : ∃ bz, bz = (decide (e1 = 0) && !bk) := ⟨_, rfl⟩
  replace hbz := Lib.hid hbz
  go_cut [18] (fun bv wx => RuB W3 bz bv wx)
  case first =>
    by_cases q1 : e1 = 0
    · have d1 : (e1 == (0 : Int)) = true := by rw [q1]; rfl
      have hbb : bz = !bk := by rw [hbz.out, decide_eq_true q1, Bool.true_and]
      replace q1 := Lib.hid q1; replace hbb := Lib.hid hbb
      go_wp2_with fail
      refine (hwi'.out _).mono ?_
      rintro en wz ⟨rfl, rfl⟩
      go_wp2
      go_meet
      exact ⟨by rw [hbb.out], rfl⟩
    · have d1 : (e1 == (0 : Int)) = false := beq_eq_false_iff_ne.2 q1
      have hbb : bz = false := by rw [hbz.out, decide_eq_false q1]; rfl
      replace q1 := Lib.hid q1; replace hbb := Lib.hid hbb
      go_wp2
      go_meet
      exact ⟨by rw [hbb.out], rfl⟩
  case rest =>
  obtain ⟨rfl, hw3⟩ := hcut
  subst hw3
  go_upto_if 18 with fail
  go_cut [4] (fun _ wx => XtW w rb B eb la ea (Evn.ofKind k) wx)
  case first =>
    cases bz with
    | true =>
      have hb := hbz.out
      have hb1 : bk = false := by cases bk with | true => simp at hb | false => rfl
      obtain ⟨ha1, ha2⟩ := hA1.out hb1
      replace hb := Lib.hid hb; replace hb1 := Lib.hid hb1; replace ha1 := Lib.hid ha1; replace ha2 := Lib.hid ha2
      go_wp2_with fail
      refine hF3.out.mono ?_
      rintro en wz ⟨rfl, hRz, hKz⟩
      rw [← ha1.out, ← ha2.out] at hRz
      have hTz := hT3.out.kept hKz hrbw.out hebw.out hRz
      replace hRz := Lib.hid hRz; replace hKz := Lib.hid hKz; replace hTz := Lib.hid hTz
      go_wp2
      go_meet
      exact hTz.out
    | false =>
      have hb := hbz.out
      have hT4 : XtW w rb B eb la ea (Evn.ofKind k) W3 := by
        cases hbk2 : bk with
        | true => obtain ⟨h1, h2⟩ := hA2.out hbk2; rw [h1, h2]; exact hT3.out
        | false =>
          have q1 : ¬ e1 = 0 := fun c => by rw [hbk2, decide_eq_true c] at hb; cases hb
          obtain ⟨h1, h2⟩ := hA1.out hbk2
          have f1 : failL l1 e1 130 = l1 := if_neg (fun c => q1 c.1)
          have f2 : failE e1 130 = e1 := if_neg (fun c => q1 c.1)
          rw [h1, h2, f1, f2]
          exact hT3.out
      replace hb := Lib.hid hb; replace hT4 := Lib.hid hT4
      go_wp2
      go_meet
      exact hT4.out
  case rest =>
  clear t3 y0
  have hT1 := hcut
  clear hcut
  have y0 : wc.cell? ⟨eb, 0, none⟩ = some (.int .i64 k) := blk_cell hT1.box 0
  obtain ⟨na, hna⟩ : ∃ na, na = Evn.ofKind k := ⟨_, rfl⟩
  have hTa := hT1
  have hga := hRk.out
  rw [← hna] at hTa hga
  clear hT1
  replace hTa := Lib.hid hTa; replace hna := Lib.hid hna; replace hga := Lib.hid hga
  go_upto_if 23 with (go_at_call 18; (with_reducible refine (hrc.out _).mono ?_); rintro en wz ⟨rfl, rfl⟩)
  go_cut [4] (fun _ wx => XtW w rb B eb l2 e2 n2 wx)
  case first =>
    cases q with
    | false =>
      obtain ⟨g1, g2, g3⟩ := hn2q.out (by simp)
      have hT2 := hTa.out
      rw [hna.out, ← g1, ← g2, ← g3] at hT2
      replace hT2 := Lib.hid hT2; replace g1 := Lib.hid g1; replace g2 := Lib.hid g2; replace g3 := Lib.hid g3
      go_wp2
      go_meet
      exact hT2.out
    | true =>
      have hIx1 := xint_any hTa.out.rd
      obtain ⟨vx1, hvx1⟩ : ∃ v, v = (intR la ea).1 := ⟨_, rfl⟩
      obtain ⟨lx1, hlx1⟩ : ∃ v, v = (intR la ea).2.1 := ⟨_, rfl⟩
      obtain ⟨ex1, hex1⟩ : ∃ v, v = (intR la ea).2.2 := ⟨_, rfl⟩
      obtain ⟨nx1, hnx1⟩ : ∃ v, v = na.set vx1 3 := ⟨_, rfl⟩
      rw [← hvx1, ← hlx1, ← hex1] at hIx1
      have hsx1 : ∀ fs f, f.1 = 3 → fldsR na (f :: fs) la ea = fldsR nx1 fs lx1 ex1 := fun fs f hf => by rw [fldsR, hf, ← hvx1, ← hlx1, ← hex1, ← hnx1]
      have hgx1 : Rng nx1 := by rw [hnx1, hvx1]; exact rng_set hga.out (intR_bd _ _) 3
      replace hIx1 := Lib.hid hIx1; replace hvx1 := Lib.hid hvx1; replace hlx1 := Lib.hid hlx1; replace hex1 := Lib.hid hex1; replace hnx1 := Lib.hid hnx1; replace hsx1 := Lib.hid hsx1; replace hgx1 := Lib.hid hgx1
      go_wp2_with fail
      refine hIx1.out.mono ?_
      rintro en xx1 ⟨rfl, hRx1, hKx1⟩
      have hUx1 := hTa.out.kept hKx1 hrbw.out hebw.out hRx1
      have ccx1 := blk_cell hUx1.box 3
      rw [evv_get _ (by decide)] at ccx1
      have ffx1 := blk_free hUx1.box 3
      have hTx1 := hUx1.set hrbw.out hebw.out hB.out (i := 3) (by decide) (by decide) vx1
      rw [← hnx1.out] at hTx1
      replace hRx1 := Lib.hid hRx1; replace hKx1 := Lib.hid hKx1; replace hUx1 := Lib.hid hUx1; replace hTx1 := Lib.hid hTx1
      have hIx2 := xint_any hTx1.out.rd
      obtain ⟨vx2, hvx2⟩ : ∃ v, v = (intR lx1 ex1).1 := ⟨_, rfl⟩
      obtain ⟨lx2, hlx2⟩ : ∃ v, v = (intR lx1 ex1).2.1 := ⟨_, rfl⟩
      obtain ⟨ex2, hex2⟩ : ∃ v, v = (intR lx1 ex1).2.2 := ⟨_, rfl⟩
      obtain ⟨nx2, hnx2⟩ : ∃ v, v = nx1.set vx2 4 := ⟨_, rfl⟩
      rw [← hvx2, ← hlx2, ← hex2] at hIx2
      have hsx2 : ∀ fs f, f.1 = 4 → fldsR nx1 (f :: fs) lx1 ex1 = fldsR nx2 fs lx2 ex2 := fun fs f hf => by rw [fldsR, hf, ← hvx2, ← hlx2, ← hex2, ← hnx2]
      have hgx2 : Rng nx2 := by rw [hnx2, hvx2]; exact rng_set hgx1.out (intR_bd _ _) 4
      replace hIx2 := Lib.hid hIx2; replace hvx2 := Lib.hid hvx2; replace hlx2 := Lib.hid hlx2; replace hex2 := Lib.hid hex2; replace hnx2 := Lib.hid hnx2; replace hsx2 := Lib.hid hsx2; replace hgx2 := Lib.hid hgx2
      go_wp2_with fail
      refine hIx2.out.mono ?_
      rintro en xx2 ⟨rfl, hRx2, hKx2⟩
      have hUx2 := hTx1.out.kept hKx2 hrbw.out hebw.out hRx2
      have ccx2 := blk_cell hUx2.box 4
      rw [evv_get _ (by decide)] at ccx2
      have ffx2 := blk_free hUx2.box 4
      have hTx2 := hUx2.set hrbw.out hebw.out hB.out (i := 4) (by decide) (by decide) vx2
      rw [← hnx2.out] at hTx2
      replace hRx2 := Lib.hid hRx2; replace hKx2 := Lib.hid hKx2; replace hUx2 := Lib.hid hUx2; replace hTx2 := Lib.hid hTx2
      have hz : (nx2, lx2, ex2) = (n2, l2, e2) := by rw [← hn2t.out (by simp), ← hna.out, hsx1.out [fldSq] fldCl rfl, hsx2.out [] fldSq rfl]; rfl
      simp only [Prod.mk.injEq] at hz
      obtain ⟨hz1, hz2, hz3⟩ := hz
      have hT2 := hTx2.out
      rw [hz1, hz2, hz3] at hT2
      replace hT2 := Lib.hid hT2; replace hz1 := Lib.hid hz1; replace hz2 := Lib.hid hz2; replace hz3 := Lib.hid hz3
      go_wp2
      go_meet
      exact hT2.out
  case rest =>
  have hT2 := hcut
  clear hcut y0
  have y0 : wc.cell? ⟨eb, 0, none⟩ = some (.int .i64 k) := by
    have := blk_cell hT2.box 0
    rw [← hkn2.out]
    exact this
  replace hT2 := Lib.hid hT2
  go_upto_block 0 with fail
  go_cut [4] (fun _ wx => XtC w rb B eb l5 e5 n sp wx)
  case first =>
    clear y0
    by_cases k1 : k = 1
    · subst k1
      have hqv : q = false := hq.out
      have hnm0 := hnq.out [fldEp] [fldEp] rfl (by rw [hqv]; rfl)
      replace hqv := Lib.hid hqv; replace hnm0 := Lib.hid hnm0
      have hIy1 := xint_any hT2.out.rd
      obtain ⟨vy1, hvy1⟩ : ∃ v, v = (intR l2 e2).1 := ⟨_, rfl⟩
      obtain ⟨ly1, hly1⟩ : ∃ v, v = (intR l2 e2).2.1 := ⟨_, rfl⟩
      obtain ⟨ey1, hey1⟩ : ∃ v, v = (intR l2 e2).2.2 := ⟨_, rfl⟩
      obtain ⟨ny1, hny1⟩ : ∃ v, v = n2.set vy1 1 := ⟨_, rfl⟩
      rw [← hvy1, ← hly1, ← hey1] at hIy1
      have hsy1 : ∀ fs f, f.1 = 1 → fldsR n2 (f :: fs) l2 e2 = fldsR ny1 fs ly1 ey1 := fun fs f hf => by rw [fldsR, hf, ← hvy1, ← hly1, ← hey1, ← hny1]
      have hgy1 : Rng ny1 := by rw [hny1, hvy1]; exact rng_set hg2.out (intR_bd _ _) 1
      replace hIy1 := Lib.hid hIy1; replace hvy1 := Lib.hid hvy1; replace hly1 := Lib.hid hly1; replace hey1 := Lib.hid hey1; replace hny1 := Lib.hid hny1; replace hsy1 := Lib.hid hsy1; replace hgy1 := Lib.hid hgy1
      go_wp2_with fail
      refine hIy1.out.mono ?_
      rintro en xy1 ⟨rfl, hRy1, hKy1⟩
      have hUy1 := hT2.out.kept hKy1 hrbw.out hebw.out hRy1
      have ccy1 := blk_cell hUy1.box 1
      rw [evv_get _ (by decide)] at ccy1
      have ffy1 := blk_free hUy1.box 1
      have hTy1 := hUy1.set hrbw.out hebw.out hB.out (i := 1) (by decide) (by decide) vy1
      rw [← hny1.out] at hTy1
      replace hRy1 := Lib.hid hRy1; replace hKy1 := Lib.hid hKy1; replace hUy1 := Lib.hid hUy1; replace hTy1 := Lib.hid hTy1
      have hnm : numsR l e = (ny1, ly1, ey1) := (by rw [hnm0.out, hsy1.out [] fldEp rfl]; rfl)
      have hfin : n = ny1 ∧ sp = [] ∧ l5 = ly1 ∧ e5 = ey1 := hnf.out _ _ _ (by decide) hnm
      obtain ⟨rfl, rfl, rfl, rfl⟩ := hfin
      replace hnm := Lib.hid hnm
      go_wp2
      go_meet
      case rel => exact ⟨⟨n, none, 0, 0, []⟩, hTy1.out.toV hgy1.out, rfl, rfl⟩
    by_cases k6 : k = 6
    · subst k6
      have hqv : q = false := hq.out
      have hnm0 := hnq.out [fldTk] [fldTk] rfl (by rw [hqv]; rfl)
      replace hqv := Lib.hid hqv; replace hnm0 := Lib.hid hnm0
      have hIy1 := xint_any hT2.out.rd
      obtain ⟨vy1, hvy1⟩ : ∃ v, v = (intR l2 e2).1 := ⟨_, rfl⟩
      obtain ⟨ly1, hly1⟩ : ∃ v, v = (intR l2 e2).2.1 := ⟨_, rfl⟩
      obtain ⟨ey1, hey1⟩ : ∃ v, v = (intR l2 e2).2.2 := ⟨_, rfl⟩
      obtain ⟨ny1, hny1⟩ : ∃ v, v = n2.set vy1 2 := ⟨_, rfl⟩
      rw [← hvy1, ← hly1, ← hey1] at hIy1
      have hsy1 : ∀ fs f, f.1 = 2 → fldsR n2 (f :: fs) l2 e2 = fldsR ny1 fs ly1 ey1 := fun fs f hf => by rw [fldsR, hf, ← hvy1, ← hly1, ← hey1, ← hny1]
      have hgy1 : Rng ny1 := by rw [hny1, hvy1]; exact rng_set hg2.out (intR_bd _ _) 2
      replace hIy1 := Lib.hid hIy1; replace hvy1 := Lib.hid hvy1; replace hly1 := Lib.hid hly1; replace hey1 := Lib.hid hey1; replace hny1 := Lib.hid hny1; replace hsy1 := Lib.hid hsy1; replace hgy1 := Lib.hid hgy1
      go_wp2_with fail
      refine hIy1.out.mono ?_
      rintro en xy1 ⟨rfl, hRy1, hKy1⟩
      have hUy1 := hT2.out.kept hKy1 hrbw.out hebw.out hRy1
      have ccy1 := blk_cell hUy1.box 2
      rw [evv_get _ (by decide)] at ccy1
      have ffy1 := blk_free hUy1.box 2
      have hTy1 := hUy1.set hrbw.out hebw.out hB.out (i := 2) (by decide) (by decide) vy1
      rw [← hny1.out] at hTy1
      replace hRy1 := Lib.hid hRy1; replace hKy1 := Lib.hid hKy1; replace hUy1 := Lib.hid hUy1; replace hTy1 := Lib.hid hTy1
      have hnm : numsR l e = (ny1, ly1, ey1) := (by rw [hnm0.out, hsy1.out [] fldTk rfl]; rfl)
      have hfin : n = ny1 ∧ sp = [] ∧ l5 = ly1 ∧ e5 = ey1 := hnf.out _ _ _ (by decide) hnm
      obtain ⟨rfl, rfl, rfl, rfl⟩ := hfin
      replace hnm := Lib.hid hnm
      go_wp2
      go_meet
      case rel => exact ⟨⟨n, none, 0, 0, []⟩, hTy1.out.toV hgy1.out, rfl, rfl⟩
    by_cases k3 : k = 3 ∨ k = 4 ∨ k = 5
    · rcases k3 with rfl | rfl | rfl
      all_goals
        have hqv : q = true := hq.out
        have hnm0 := hnq.out [fldCl, fldSq, fldJb] [fldJb] rfl (by rw [hqv]; rfl)
        replace hqv := Lib.hid hqv; replace hnm0 := Lib.hid hnm0
        have hIy1 := xint_any hT2.out.rd
        obtain ⟨vy1, hvy1⟩ : ∃ v, v = (intR l2 e2).1 := ⟨_, rfl⟩
        obtain ⟨ly1, hly1⟩ : ∃ v, v = (intR l2 e2).2.1 := ⟨_, rfl⟩
        obtain ⟨ey1, hey1⟩ : ∃ v, v = (intR l2 e2).2.2 := ⟨_, rfl⟩
        obtain ⟨ny1, hny1⟩ : ∃ v, v = n2.set vy1 5 := ⟨_, rfl⟩
        rw [← hvy1, ← hly1, ← hey1] at hIy1
        have hsy1 : ∀ fs f, f.1 = 5 → fldsR n2 (f :: fs) l2 e2 = fldsR ny1 fs ly1 ey1 := fun fs f hf => by rw [fldsR, hf, ← hvy1, ← hly1, ← hey1, ← hny1]
        have hgy1 : Rng ny1 := by rw [hny1, hvy1]; exact rng_set hg2.out (intR_bd _ _) 5
        replace hIy1 := Lib.hid hIy1; replace hvy1 := Lib.hid hvy1; replace hly1 := Lib.hid hly1; replace hey1 := Lib.hid hey1; replace hny1 := Lib.hid hny1; replace hsy1 := Lib.hid hsy1; replace hgy1 := Lib.hid hgy1
        go_wp2_with fail
        refine hIy1.out.mono ?_
        rintro en xy1 ⟨rfl, hRy1, hKy1⟩
        have hUy1 := hT2.out.kept hKy1 hrbw.out hebw.out hRy1
        have ccy1 := blk_cell hUy1.box 5
        rw [evv_get _ (by decide)] at ccy1
        have ffy1 := blk_free hUy1.box 5
        have hTy1 := hUy1.set hrbw.out hebw.out hB.out (i := 5) (by decide) (by decide) vy1
        rw [← hny1.out] at hTy1
        replace hRy1 := Lib.hid hRy1; replace hKy1 := Lib.hid hKy1; replace hUy1 := Lib.hid hUy1; replace hTy1 := Lib.hid hTy1
        have hnm : numsR l e = (ny1, ly1, ey1) := (by rw [hnm0.out, hsy1.out [] fldJb rfl]; rfl)
        have hfin : n = ny1 ∧ sp = [] ∧ l5 = ly1 ∧ e5 = ey1 := hnf.out _ _ _ (by decide) hnm
        obtain ⟨rfl, rfl, rfl, rfl⟩ := hfin
        replace hnm := Lib.hid hnm
        go_wp2
        go_meet
        case rel => exact ⟨⟨n, none, 0, 0, []⟩, hTy1.out.toV hgy1.out, rfl, rfl⟩
    by_cases k7 : k = 7
    · subst k7
      have hqv : q = false := hq.out
      have hnm0 := hnq.out [fldJb, fldAt, fldNd, fldHw] [fldJb, fldAt, fldNd, fldHw] rfl (by rw [hqv]; rfl)
      replace hqv := Lib.hid hqv; replace hnm0 := Lib.hid hnm0
      have hIy1 := xint_any hT2.out.rd
      obtain ⟨vy1, hvy1⟩ : ∃ v, v = (intR l2 e2).1 := ⟨_, rfl⟩
      obtain ⟨ly1, hly1⟩ : ∃ v, v = (intR l2 e2).2.1 := ⟨_, rfl⟩
      obtain ⟨ey1, hey1⟩ : ∃ v, v = (intR l2 e2).2.2 := ⟨_, rfl⟩
      obtain ⟨ny1, hny1⟩ : ∃ v, v = n2.set vy1 5 := ⟨_, rfl⟩
      rw [← hvy1, ← hly1, ← hey1] at hIy1
      have hsy1 : ∀ fs f, f.1 = 5 → fldsR n2 (f :: fs) l2 e2 = fldsR ny1 fs ly1 ey1 := fun fs f hf => by rw [fldsR, hf, ← hvy1, ← hly1, ← hey1, ← hny1]
      have hgy1 : Rng ny1 := by rw [hny1, hvy1]; exact rng_set hg2.out (intR_bd _ _) 5
      replace hIy1 := Lib.hid hIy1; replace hvy1 := Lib.hid hvy1; replace hly1 := Lib.hid hly1; replace hey1 := Lib.hid hey1; replace hny1 := Lib.hid hny1; replace hsy1 := Lib.hid hsy1; replace hgy1 := Lib.hid hgy1
      go_wp2_with fail
      refine hIy1.out.mono ?_
      rintro en xy1 ⟨rfl, hRy1, hKy1⟩
      have hUy1 := hT2.out.kept hKy1 hrbw.out hebw.out hRy1
      have ccy1 := blk_cell hUy1.box 5
      rw [evv_get _ (by decide)] at ccy1
      have ffy1 := blk_free hUy1.box 5
      have hTy1 := hUy1.set hrbw.out hebw.out hB.out (i := 5) (by decide) (by decide) vy1
      rw [← hny1.out] at hTy1
      replace hRy1 := Lib.hid hRy1; replace hKy1 := Lib.hid hKy1; replace hUy1 := Lib.hid hUy1; replace hTy1 := Lib.hid hTy1
      have hIy2 := xint_any hTy1.out.rd
      obtain ⟨vy2, hvy2⟩ : ∃ v, v = (intR ly1 ey1).1 := ⟨_, rfl⟩
      obtain ⟨ly2, hly2⟩ : ∃ v, v = (intR ly1 ey1).2.1 := ⟨_, rfl⟩
      obtain ⟨ey2, hey2⟩ : ∃ v, v = (intR ly1 ey1).2.2 := ⟨_, rfl⟩
      obtain ⟨ny2, hny2⟩ : ∃ v, v = ny1.set vy2 6 := ⟨_, rfl⟩
      rw [← hvy2, ← hly2, ← hey2] at hIy2
      have hsy2 : ∀ fs f, f.1 = 6 → fldsR ny1 (f :: fs) ly1 ey1 = fldsR ny2 fs ly2 ey2 := fun fs f hf => by rw [fldsR, hf, ← hvy2, ← hly2, ← hey2, ← hny2]
      have hgy2 : Rng ny2 := by rw [hny2, hvy2]; exact rng_set hgy1.out (intR_bd _ _) 6
      replace hIy2 := Lib.hid hIy2; replace hvy2 := Lib.hid hvy2; replace hly2 := Lib.hid hly2; replace hey2 := Lib.hid hey2; replace hny2 := Lib.hid hny2; replace hsy2 := Lib.hid hsy2; replace hgy2 := Lib.hid hgy2
      go_wp2_with fail
      refine hIy2.out.mono ?_
      rintro en xy2 ⟨rfl, hRy2, hKy2⟩
      have hUy2 := hTy1.out.kept hKy2 hrbw.out hebw.out hRy2
      have ccy2 := blk_cell hUy2.box 6
      rw [evv_get _ (by decide)] at ccy2
      have ffy2 := blk_free hUy2.box 6
      have hTy2 := hUy2.set hrbw.out hebw.out hB.out (i := 6) (by decide) (by decide) vy2
      rw [← hny2.out] at hTy2
      replace hRy2 := Lib.hid hRy2; replace hKy2 := Lib.hid hKy2; replace hUy2 := Lib.hid hUy2; replace hTy2 := Lib.hid hTy2
      have hIy3 := xint_any hTy2.out.rd
      obtain ⟨vy3, hvy3⟩ : ∃ v, v = (intR ly2 ey2).1 := ⟨_, rfl⟩
      obtain ⟨ly3, hly3⟩ : ∃ v, v = (intR ly2 ey2).2.1 := ⟨_, rfl⟩
      obtain ⟨ey3, hey3⟩ : ∃ v, v = (intR ly2 ey2).2.2 := ⟨_, rfl⟩
      obtain ⟨ny3, hny3⟩ : ∃ v, v = ny2.set vy3 7 := ⟨_, rfl⟩
      rw [← hvy3, ← hly3, ← hey3] at hIy3
      have hsy3 : ∀ fs f, f.1 = 7 → fldsR ny2 (f :: fs) ly2 ey2 = fldsR ny3 fs ly3 ey3 := fun fs f hf => by rw [fldsR, hf, ← hvy3, ← hly3, ← hey3, ← hny3]
      have hgy3 : Rng ny3 := by rw [hny3, hvy3]; exact rng_set hgy2.out (intR_bd _ _) 7
      replace hIy3 := Lib.hid hIy3; replace hvy3 := Lib.hid hvy3; replace hly3 := Lib.hid hly3; replace hey3 := Lib.hid hey3; replace hny3 := Lib.hid hny3; replace hsy3 := Lib.hid hsy3; replace hgy3 := Lib.hid hgy3
      go_wp2_with fail
      refine hIy3.out.mono ?_
      rintro en xy3 ⟨rfl, hRy3, hKy3⟩
      have hUy3 := hTy2.out.kept hKy3 hrbw.out hebw.out hRy3
      have ccy3 := blk_cell hUy3.box 7
      rw [evv_get _ (by decide)] at ccy3
      have ffy3 := blk_free hUy3.box 7
      have hTy3 := hUy3.set hrbw.out hebw.out hB.out (i := 7) (by decide) (by decide) vy3
      rw [← hny3.out] at hTy3
      replace hRy3 := Lib.hid hRy3; replace hKy3 := Lib.hid hKy3; replace hUy3 := Lib.hid hUy3; replace hTy3 := Lib.hid hTy3
      have hIy4 := xint_any hTy3.out.rd
      obtain ⟨vy4, hvy4⟩ : ∃ v, v = (intR ly3 ey3).1 := ⟨_, rfl⟩
      obtain ⟨ly4, hly4⟩ : ∃ v, v = (intR ly3 ey3).2.1 := ⟨_, rfl⟩
      obtain ⟨ey4, hey4⟩ : ∃ v, v = (intR ly3 ey3).2.2 := ⟨_, rfl⟩
      obtain ⟨ny4, hny4⟩ : ∃ v, v = ny3.set vy4 8 := ⟨_, rfl⟩
      rw [← hvy4, ← hly4, ← hey4] at hIy4
      have hsy4 : ∀ fs f, f.1 = 8 → fldsR ny3 (f :: fs) ly3 ey3 = fldsR ny4 fs ly4 ey4 := fun fs f hf => by rw [fldsR, hf, ← hvy4, ← hly4, ← hey4, ← hny4]
      have hgy4 : Rng ny4 := by rw [hny4, hvy4]; exact rng_set hgy3.out (intR_bd _ _) 8
      replace hIy4 := Lib.hid hIy4; replace hvy4 := Lib.hid hvy4; replace hly4 := Lib.hid hly4; replace hey4 := Lib.hid hey4; replace hny4 := Lib.hid hny4; replace hsy4 := Lib.hid hsy4; replace hgy4 := Lib.hid hgy4
      go_wp2_with fail
      refine hIy4.out.mono ?_
      rintro en xy4 ⟨rfl, hRy4, hKy4⟩
      have hUy4 := hTy3.out.kept hKy4 hrbw.out hebw.out hRy4
      have ccy4 := blk_cell hUy4.box 8
      rw [evv_get _ (by decide)] at ccy4
      have ffy4 := blk_free hUy4.box 8
      have hTy4 := hUy4.set hrbw.out hebw.out hB.out (i := 8) (by decide) (by decide) vy4
      rw [← hny4.out] at hTy4
      replace hRy4 := Lib.hid hRy4; replace hKy4 := Lib.hid hKy4; replace hUy4 := Lib.hid hUy4; replace hTy4 := Lib.hid hTy4
      have hnm : numsR l e = (ny4, ly4, ey4) := (by rw [hnm0.out, hsy1.out _ fldJb rfl, hsy2.out _ fldAt rfl, hsy3.out _ fldNd rfl, hsy4.out _ fldHw rfl]; rfl)
      have hfin : n = ny4 ∧ sp = [] ∧ l5 = ly4 ∧ e5 = ey4 := hnf.out _ _ _ (by decide) hnm
      obtain ⟨rfl, rfl, rfl, rfl⟩ := hfin
      replace hnm := Lib.hid hnm
      go_wp2
      go_meet
      case rel => exact ⟨⟨n, none, 0, 0, []⟩, hTy4.out.toV hgy4.out, rfl, rfl⟩
    by_cases k8 : k = 8 ∨ k = 9
    · rcases k8 with rfl | rfl
      all_goals
        have hqv : q = false := hq.out
        have hnm0 := hnq.out [fldNd, fldTk] [fldNd, fldTk] rfl (by rw [hqv]; rfl)
        replace hqv := Lib.hid hqv; replace hnm0 := Lib.hid hnm0
        have hIy1 := xint_any hT2.out.rd
        obtain ⟨vy1, hvy1⟩ : ∃ v, v = (intR l2 e2).1 := ⟨_, rfl⟩
        obtain ⟨ly1, hly1⟩ : ∃ v, v = (intR l2 e2).2.1 := ⟨_, rfl⟩
        obtain ⟨ey1, hey1⟩ : ∃ v, v = (intR l2 e2).2.2 := ⟨_, rfl⟩
        obtain ⟨ny1, hny1⟩ : ∃ v, v = n2.set vy1 7 := ⟨_, rfl⟩
        rw [← hvy1, ← hly1, ← hey1] at hIy1
        have hsy1 : ∀ fs f, f.1 = 7 → fldsR n2 (f :: fs) l2 e2 = fldsR ny1 fs ly1 ey1 := fun fs f hf => by rw [fldsR, hf, ← hvy1, ← hly1, ← hey1, ← hny1]
        have hgy1 : Rng ny1 := by rw [hny1, hvy1]; exact rng_set hg2.out (intR_bd _ _) 7
        replace hIy1 := Lib.hid hIy1; replace hvy1 := Lib.hid hvy1; replace hly1 := Lib.hid hly1; replace hey1 := Lib.hid hey1; replace hny1 := Lib.hid hny1; replace hsy1 := Lib.hid hsy1; replace hgy1 := Lib.hid hgy1
        go_wp2_with fail
        refine hIy1.out.mono ?_
        rintro en xy1 ⟨rfl, hRy1, hKy1⟩
        have hUy1 := hT2.out.kept hKy1 hrbw.out hebw.out hRy1
        have ccy1 := blk_cell hUy1.box 7
        rw [evv_get _ (by decide)] at ccy1
        have ffy1 := blk_free hUy1.box 7
        have hTy1 := hUy1.set hrbw.out hebw.out hB.out (i := 7) (by decide) (by decide) vy1
        rw [← hny1.out] at hTy1
        replace hRy1 := Lib.hid hRy1; replace hKy1 := Lib.hid hKy1; replace hUy1 := Lib.hid hUy1; replace hTy1 := Lib.hid hTy1
        have hIy2 := xint_any hTy1.out.rd
        obtain ⟨vy2, hvy2⟩ : ∃ v, v = (intR ly1 ey1).1 := ⟨_, rfl⟩
        obtain ⟨ly2, hly2⟩ : ∃ v, v = (intR ly1 ey1).2.1 := ⟨_, rfl⟩
        obtain ⟨ey2, hey2⟩ : ∃ v, v = (intR ly1 ey1).2.2 := ⟨_, rfl⟩
        obtain ⟨ny2, hny2⟩ : ∃ v, v = ny1.set vy2 2 := ⟨_, rfl⟩
        rw [← hvy2, ← hly2, ← hey2] at hIy2
        have hsy2 : ∀ fs f, f.1 = 2 → fldsR ny1 (f :: fs) ly1 ey1 = fldsR ny2 fs ly2 ey2 := fun fs f hf => by rw [fldsR, hf, ← hvy2, ← hly2, ← hey2, ← hny2]
        have hgy2 : Rng ny2 := by rw [hny2, hvy2]; exact rng_set hgy1.out (intR_bd _ _) 2
        replace hIy2 := Lib.hid hIy2; replace hvy2 := Lib.hid hvy2; replace hly2 := Lib.hid hly2; replace hey2 := Lib.hid hey2; replace hny2 := Lib.hid hny2; replace hsy2 := Lib.hid hsy2; replace hgy2 := Lib.hid hgy2
        go_wp2_with fail
        refine hIy2.out.mono ?_
        rintro en xy2 ⟨rfl, hRy2, hKy2⟩
        have hUy2 := hTy1.out.kept hKy2 hrbw.out hebw.out hRy2
        have ccy2 := blk_cell hUy2.box 2
        rw [evv_get _ (by decide)] at ccy2
        have ffy2 := blk_free hUy2.box 2
        have hTy2 := hUy2.set hrbw.out hebw.out hB.out (i := 2) (by decide) (by decide) vy2
        rw [← hny2.out] at hTy2
        replace hRy2 := Lib.hid hRy2; replace hKy2 := Lib.hid hKy2; replace hUy2 := Lib.hid hUy2; replace hTy2 := Lib.hid hTy2
        have hnm : numsR l e = (ny2, ly2, ey2) := (by rw [hnm0.out, hsy1.out _ fldNd rfl, hsy2.out _ fldTk rfl]; rfl)
        have hfin : n = ny2 ∧ sp = [] ∧ l5 = ly2 ∧ e5 = ey2 := hnf.out _ _ _ (by decide) hnm
        obtain ⟨rfl, rfl, rfl, rfl⟩ := hfin
        replace hnm := Lib.hid hnm
        go_wp2
        go_meet
        case rel => exact ⟨⟨n, none, 0, 0, []⟩, hTy2.out.toV hgy2.out, rfl, rfl⟩
    by_cases k10 : k = 10 ∨ k = 11
    · rcases k10 with rfl | rfl
      all_goals
        have hqv : q = true := hq.out
        have hnm0 := hnq.out [fldCl, fldSq, fldNd] [fldNd] rfl (by rw [hqv]; rfl)
        replace hqv := Lib.hid hqv; replace hnm0 := Lib.hid hnm0
        have hIy1 := xint_any hT2.out.rd
        obtain ⟨vy1, hvy1⟩ : ∃ v, v = (intR l2 e2).1 := ⟨_, rfl⟩
        obtain ⟨ly1, hly1⟩ : ∃ v, v = (intR l2 e2).2.1 := ⟨_, rfl⟩
        obtain ⟨ey1, hey1⟩ : ∃ v, v = (intR l2 e2).2.2 := ⟨_, rfl⟩
        obtain ⟨ny1, hny1⟩ : ∃ v, v = n2.set vy1 7 := ⟨_, rfl⟩
        rw [← hvy1, ← hly1, ← hey1] at hIy1
        have hsy1 : ∀ fs f, f.1 = 7 → fldsR n2 (f :: fs) l2 e2 = fldsR ny1 fs ly1 ey1 := fun fs f hf => by rw [fldsR, hf, ← hvy1, ← hly1, ← hey1, ← hny1]
        have hgy1 : Rng ny1 := by rw [hny1, hvy1]; exact rng_set hg2.out (intR_bd _ _) 7
        replace hIy1 := Lib.hid hIy1; replace hvy1 := Lib.hid hvy1; replace hly1 := Lib.hid hly1; replace hey1 := Lib.hid hey1; replace hny1 := Lib.hid hny1; replace hsy1 := Lib.hid hsy1; replace hgy1 := Lib.hid hgy1
        go_wp2_with fail
        refine hIy1.out.mono ?_
        rintro en xy1 ⟨rfl, hRy1, hKy1⟩
        have hUy1 := hT2.out.kept hKy1 hrbw.out hebw.out hRy1
        have ccy1 := blk_cell hUy1.box 7
        rw [evv_get _ (by decide)] at ccy1
        have ffy1 := blk_free hUy1.box 7
        have hTy1 := hUy1.set hrbw.out hebw.out hB.out (i := 7) (by decide) (by decide) vy1
        rw [← hny1.out] at hTy1
        replace hRy1 := Lib.hid hRy1; replace hKy1 := Lib.hid hKy1; replace hUy1 := Lib.hid hUy1; replace hTy1 := Lib.hid hTy1
        have hnm : numsR l e = (ny1, ly1, ey1) := (by rw [hnm0.out, hsy1.out [] fldNd rfl]; rfl)
        have hfin : n = ny1 ∧ sp = [] ∧ l5 = ly1 ∧ e5 = ey1 := hnf.out _ _ _ (by decide) hnm
        obtain ⟨rfl, rfl, rfl, rfl⟩ := hfin
        replace hnm := Lib.hid hnm
        go_wp2
        go_meet
        case rel => exact ⟨⟨n, none, 0, 0, []⟩, hTy1.out.toV hgy1.out, rfl, rfl⟩
    by_cases k2 : k = 2
    · subst k2
      have hqv : q = true := hq.out
      have hnm0 : numsR l e = (n2, l2, e2) := hnq.out [fldCl, fldSq] [] rfl (by rw [hqv]; rfl)
      have hss : specsR l2 e2 = (sp, l5, e5) := by
        rw [hsp.out, hl5.out, he5.out]
        unfold spcsR
        rw [if_pos hk.out.symm, hnm0]
      have hn2' : n = n2 := by rw [hnn.out, hnm0]
      subst hn2'
      have hesp := xspecs_any hT2.out.rd (by have h1 := hT2.out.kp.size; have := hB.out; omega)
      replace hqv := Lib.hid hqv; replace hnm0 := Lib.hid hnm0; replace hss := Lib.hid hss; replace hesp := Lib.hid hesp
      go_wp2_with fail
      refine hesp.out.mono ?_
      rintro en w5 ⟨so, m, c, xs, rfl, hmc, hsps, hxp, hfs, hfx, hR5, hK5⟩
      rw [hss.out] at hxp hR5
      have hT5 := hT2.out.kept hK5 hrbw.out hebw.out hR5
      have v9 : w5.cell? ⟨eb, 9, none⟩ = some (.slice none 0 0) := blk_cell hT5.box 9
      have f9 := blk_free hT5.box 9
      have hne : w.heap.size ≠ eb := by have := hebw.out; omega
      have hlb : Below w.heap.size w5 (w5.setCell ⟨eb, 9, none⟩ (.slice so m c)) := Below.setCell (Below.refl _ _) (show w.heap.size ≤ eb by have := hebw.out; omega) _
      have hebl := blk_lt hT2.out.box
      have hXo : (⟨n, so, m, c, xs⟩ : Evv).ok w5 := ⟨hsps, hmc, hg2.out⟩
      have hXf : EvF eb (⟨n, so, m, c, xs⟩ : Evv) := ⟨fun b o e => Nat.lt_of_lt_of_le hebl (hfs b o e), fun x hx ha b o e => Nat.lt_of_lt_of_le hebl (hfx x hx ha b o e)⟩
      have hC : XtC w rb B eb l5 e5 n sp (w5.setCell ⟨eb, 9, none⟩ (.slice so m c)) := ⟨⟨n, so, m, c, xs⟩, ⟨hT5.rd.at hlb hrbw.out hB.out, by simpa using blk_set hT5.box 9 (.slice so m c), blk_set_other hne _ hT5.res, hT5.kp.then hlb (Nat.le_refl _), hXo.kept hXf (Kept.set eb 9 w5 _) (Nat.le_refl _), ⟨fun b o e => by have h1 := hXf.so b o e; have := hebw.out; omega, fun x hx ha b o e => by have h1 := hXf.af x hx ha b o e; have := hebw.out; omega⟩⟩, rfl, hxp⟩
      replace hmc := Lib.hid hmc; replace hsps := Lib.hid hsps; replace hxp := Lib.hid hxp; replace hfs := Lib.hid hfs; replace hfx := Lib.hid hfx; replace hR5 := Lib.hid hR5; replace hK5 := Lib.hid hK5; replace hT5 := Lib.hid hT5; replace hlb := Lib.hid hlb; replace hXo := Lib.hid hXo; replace hXf := Lib.hid hXf; replace hC := Lib.hid hC; replace hebl := Lib.hid hebl; replace hne := Lib.hid hne
      go_wp2
      go_meet
      case rel => exact hC.out
    have d1 : (k == (1 : Int)) = false := beq_eq_false_iff_ne.2 k1
    have d2 : (k == (2 : Int)) = false := beq_eq_false_iff_ne.2 k2
    have d3 : (k == (3 : Int)) = false := beq_eq_false_iff_ne.2 (by omega)
    have d4 : (k == (4 : Int)) = false := beq_eq_false_iff_ne.2 (by omega)
    have d5 : (k == (5 : Int)) = false := beq_eq_false_iff_ne.2 (by omega)
    have d6 : (k == (6 : Int)) = false := beq_eq_false_iff_ne.2 k6
    have d7 : (k == (7 : Int)) = false := beq_eq_false_iff_ne.2 k7
    have d8 : (k == (8 : Int)) = false := beq_eq_false_iff_ne.2 (by omega)
    have d9 : (k == (9 : Int)) = false := beq_eq_false_iff_ne.2 (by omega)
    have d10 : (k == (10 : Int)) = false := beq_eq_false_iff_ne.2 (by omega)
    have d11 : (k == (11 : Int)) = false := beq_eq_false_iff_ne.2 (by omega)
    have hbkf : bk = false := by
      rw [hbk.out, Bool.eq_false_iff]
      intro c
      have := betw_iff.1 c
      omega
    have hqf : q = false := by
      rw [hq.out, Bool.eq_false_iff]
      intro c
      simp [clientK, betw] at c
      omega
    obtain ⟨g1, g2, g3⟩ := hn2q.out hqf
    have hnm : numsR l e = (n2, l2, e2) := by rw [hnz.out hbkf, g1, g2, g3]
    have hfin : n = n2 ∧ sp = [] ∧ l5 = l2 ∧ e5 = e2 := hnf.out _ _ _ k2 hnm
    clear k1 k2 k3 k6 k7 k8 k10
    replace g1 := Lib.hid g1; replace g2 := Lib.hid g2; replace g3 := Lib.hid g3; replace hbkf := Lib.hid hbkf; replace hqf := Lib.hid hqf
    obtain ⟨rfl, rfl, rfl, rfl⟩ := hfin
    replace hnm := Lib.hid hnm
    go_wp2
    go_meet
    case rel => exact ⟨⟨n, none, 0, 0, []⟩, hT2.out.toV hg2.out, rfl, rfl⟩
  case rest =>
  clear y0
  obtain ⟨X, hV, hXn, hXs⟩ := hcut.ex
  have hXp : X.pl = ⟨n, sp⟩ := by unfold Evv.pl; rw [hXn, hXs]
  have hck := rmayE_any X wc hV.ok
  rw [hXp] at hck
  obtain ⟨my, hmyb⟩ : ∃ my, my = mayE ⟨n, sp⟩ := ⟨_, rfl⟩
  rw [← hmyb] at hck
  obtain ⟨⟨kk, epoch, tick, client, seq, job, attempt, node, how⟩, xo, xm, xc, xsp⟩ := X
  have y0 : wc.cell? ⟨eb, 0, none⟩ = some (.int .i64 kk) := blk_cell hV.box 0
  have y1 : wc.cell? ⟨eb, 1, none⟩ = some (.int .i64 epoch) := blk_cell hV.box 1
  have y2 : wc.cell? ⟨eb, 2, none⟩ = some (.int .i64 tick) := blk_cell hV.box 2
  have y3 : wc.cell? ⟨eb, 3, none⟩ = some (.int .i64 client) := blk_cell hV.box 3
  have y4 : wc.cell? ⟨eb, 4, none⟩ = some (.int .i64 seq) := blk_cell hV.box 4
  have y5 : wc.cell? ⟨eb, 5, none⟩ = some (.int .i64 job) := blk_cell hV.box 5
  have y6 : wc.cell? ⟨eb, 6, none⟩ = some (.int .i64 attempt) := blk_cell hV.box 6
  have y7 : wc.cell? ⟨eb, 7, none⟩ = some (.int .i64 node) := blk_cell hV.box 7
  have y8 : wc.cell? ⟨eb, 8, none⟩ = some (.int .i64 how) := blk_cell hV.box 8
  have y9 : wc.cell? ⟨eb, 9, none⟩ = some (.slice xo xm xc) := blk_cell hV.box 9
  have hcut' := Lib.hid hcut
  clear hcut
  replace hV := Lib.hid hV; replace hXn := Lib.hid hXn; replace hXs := Lib.hid hXs; replace hXp := Lib.hid hXp; replace hck := Lib.hid hck; replace hmyb := Lib.hid hmyb
  go_wp2_with fail
  refine hck.out.mono ?_
  rintro en w7 ⟨rfl, hb7⟩
  have hV7 := hV.out.low hb7
  clear y0 y1 y2 y3 y4 y5 y6 y7 y8 y9
  obtain ⟨so7, n7, c7, a7, _⟩ := hV7.rd.ex
  have t1 : w7.cell? ⟨rb, 1, none⟩ = some (.int .i64 e5) := blk_cell a7 1
  replace a7 := Lib.hid a7
  by_cases q5 : e5 = 0
  · have d1 : (e5 == (0 : Int)) = true := by rw [q5]; rfl
    have d2 : (e5 != (0 : Int)) = false := by rw [q5]; rfl
    cases my with
    | true =>
      have hlst2 : lastR l e = (l5, e5) := by rw [hlst.out, if_pos hmyb.out.symm]
      have htk : takeR l e = (⟨n, sp⟩, l5, e5) := by unfold takeR; rw [hlst2, hraw.out, if_pos q5]
      have y0 : w7.cell? ⟨eb, 0, none⟩ = some (.int .i64 kk) := blk_cell hV7.box 0
      have y1 : w7.cell? ⟨eb, 1, none⟩ = some (.int .i64 epoch) := blk_cell hV7.box 1
      have y2 : w7.cell? ⟨eb, 2, none⟩ = some (.int .i64 tick) := blk_cell hV7.box 2
      have y3 : w7.cell? ⟨eb, 3, none⟩ = some (.int .i64 client) := blk_cell hV7.box 3
      have y4 : w7.cell? ⟨eb, 4, none⟩ = some (.int .i64 seq) := blk_cell hV7.box 4
      have y5 : w7.cell? ⟨eb, 5, none⟩ = some (.int .i64 job) := blk_cell hV7.box 5
      have y6 : w7.cell? ⟨eb, 6, none⟩ = some (.int .i64 attempt) := blk_cell hV7.box 6
      have y7 : w7.cell? ⟨eb, 7, none⟩ = some (.int .i64 node) := blk_cell hV7.box 7
      have y8 : w7.cell? ⟨eb, 8, none⟩ = some (.int .i64 how) := blk_cell hV7.box 8
      have y9 : w7.cell? ⟨eb, 9, none⟩ = some (.slice xo xm xc) := blk_cell hV7.box 9
      have r0 : w7.cell? ⟨w.heap.size, 0, none⟩ = some (.int .i64 0) := blk_cell hV7.res 0
      have r1 : w7.cell? ⟨w.heap.size, 1, none⟩ = some (.int .i64 0) := blk_cell hV7.res 1
      have r2 : w7.cell? ⟨w.heap.size, 2, none⟩ = some (.int .i64 0) := blk_cell hV7.res 2
      have r3 : w7.cell? ⟨w.heap.size, 3, none⟩ = some (.int .i64 0) := blk_cell hV7.res 3
      have r4 : w7.cell? ⟨w.heap.size, 4, none⟩ = some (.int .i64 0) := blk_cell hV7.res 4
      have r5 : w7.cell? ⟨w.heap.size, 5, none⟩ = some (.int .i64 0) := blk_cell hV7.res 5
      have r6 : w7.cell? ⟨w.heap.size, 6, none⟩ = some (.int .i64 0) := blk_cell hV7.res 6
      have r7 : w7.cell? ⟨w.heap.size, 7, none⟩ = some (.int .i64 0) := blk_cell hV7.res 7
      have r8 : w7.cell? ⟨w.heap.size, 8, none⟩ = some (.int .i64 0) := blk_cell hV7.res 8
      have r9 : w7.cell? ⟨w.heap.size, 9, none⟩ = some (.slice none 0 0) := blk_cell hV7.res 9
      have g0 : w7.frozen? ⟨w.heap.size, 0, none⟩ = false := blk_free hV7.res 0
      have g1 : w7.frozen? ⟨w.heap.size, 1, none⟩ = false := blk_free hV7.res 1
      have g2 : w7.frozen? ⟨w.heap.size, 2, none⟩ = false := blk_free hV7.res 2
      have g3 : w7.frozen? ⟨w.heap.size, 3, none⟩ = false := blk_free hV7.res 3
      have g4 : w7.frozen? ⟨w.heap.size, 4, none⟩ = false := blk_free hV7.res 4
      have g5 : w7.frozen? ⟨w.heap.size, 5, none⟩ = false := blk_free hV7.res 5
      have g6 : w7.frozen? ⟨w.heap.size, 6, none⟩ = false := blk_free hV7.res 6
      have g7 : w7.frozen? ⟨w.heap.size, 7, none⟩ = false := blk_free hV7.res 7
      have g8 : w7.frozen? ⟨w.heap.size, 8, none⟩ = false := blk_free hV7.res 8
      have g9 : w7.frozen? ⟨w.heap.size, 9, none⟩ = false := blk_free hV7.res 9
      obtain ⟨W9, hW9⟩ : ∃ W9, W9 = ((((((((((w7.setCell ⟨w.heap.size, 0, none⟩ (.int .i64 kk)).setCell ⟨w.heap.size, 1, none⟩ (.int .i64 epoch)).setCell ⟨w.heap.size, 2, none⟩ (.int .i64 tick)).setCell ⟨w.heap.size, 3, none⟩ (.int .i64 client)).setCell ⟨w.heap.size, 4, none⟩ (.int .i64 seq)).setCell ⟨w.heap.size, 5, none⟩ (.int .i64 job)).setCell ⟨w.heap.size, 6, none⟩ (.int .i64 attempt)).setCell ⟨w.heap.size, 7, none⟩ (.int .i64 node)).setCell ⟨w.heap.size, 8, none⟩ (.int .i64 how)).setCell ⟨w.heap.size, 9, none⟩ (.slice xo xm xc)) := ⟨_, rfl⟩
      have hb9 : W9.heap[w.heap.size]? = some (.cells (⟨⟨kk, epoch, tick, client, seq, job, attempt, node, how⟩, xo, xm, xc, xsp⟩ : Evv).cells 43 (0, 0)) := by rw [hW9]; exact set10_box hV7.res
      have hk9 : Kept w.heap.size w7 W9 := by rw [hW9]; exact set10_kept ..
      have s0 : W9.cell? ⟨w.heap.size, 0, none⟩ = some (.int .i64 kk) := blk_cell hb9 0
      have s1 : W9.cell? ⟨w.heap.size, 1, none⟩ = some (.int .i64 epoch) := blk_cell hb9 1
      have s2 : W9.cell? ⟨w.heap.size, 2, none⟩ = some (.int .i64 tick) := blk_cell hb9 2
      have s3 : W9.cell? ⟨w.heap.size, 3, none⟩ = some (.int .i64 client) := blk_cell hb9 3
      have s4 : W9.cell? ⟨w.heap.size, 4, none⟩ = some (.int .i64 seq) := blk_cell hb9 4
      have s5 : W9.cell? ⟨w.heap.size, 5, none⟩ = some (.int .i64 job) := blk_cell hb9 5
      have s6 : W9.cell? ⟨w.heap.size, 6, none⟩ = some (.int .i64 attempt) := blk_cell hb9 6
      have s7 : W9.cell? ⟨w.heap.size, 7, none⟩ = some (.int .i64 node) := blk_cell hb9 7
      have s8 : W9.cell? ⟨w.heap.size, 8, none⟩ = some (.int .i64 how) := blk_cell hb9 8
      have s9 : W9.cell? ⟨w.heap.size, 9, none⟩ = some (.slice xo xm xc) := blk_cell hb9 9
      have hl9 : Below w.heap.size w7 W9 := hk9.below (Nat.le_refl _) (blk_lt hV7.res)
      have hR9 := hV7.rd.at hl9 hrbw.out hB.out
      have hO9 := hV7.ok.kept hV7.fr hk9 (Nat.le_refl _)
      have hKp9 := hV7.kp.then hl9 (Nat.le_refl _)
      have hW9' := Lib.hid hW9
      clear hW9
      replace hb7 := Lib.hid hb7; replace hV7 := Lib.hid hV7; replace hlst2 := Lib.hid hlst2; replace q5 := Lib.hid q5; replace htk := Lib.hid htk; replace hb9 := Lib.hid hb9; replace hk9 := Lib.hid hk9; replace hl9 := Lib.hid hl9; replace hR9 := Lib.hid hR9; replace hO9 := Lib.hid hO9; replace hKp9 := Lib.hid hKp9
      go_wp2
      rw [← hW9'.out]
      refine bodyPost_ret (v := (⟨⟨kk, epoch, tick, client, seq, job, attempt, node, how⟩, xo, xm, xc, xsp⟩ : Evv).val) (by simp [results, Tryz.results21, go_sem, s0, s1, s2, s3, s4, s5, s6, s7, s8, s9]) rfl ?_
      exact ⟨(⟨⟨kk, epoch, tick, client, seq, job, attempt, node, how⟩, xo, xm, xc, xsp⟩ : Evv), rfl, hO9.out, by rw [htk.out]; exact hXp.out, by rw [htk.out]; exact hR9.out, hKp9.out⟩
    | false =>
      have hlst2 : lastR l e = (failL l5 e5 130, failE e5 130) := by rw [hlst.out, if_neg (by rw [← hmyb.out]; simp)]
      have hFl := xfail_any hV7.rd 130
      replace hb7 := Lib.hid hb7; replace hV7 := Lib.hid hV7; replace hlst2 := Lib.hid hlst2; replace hFl := Lib.hid hFl; replace q5 := Lib.hid q5
      go_wp2_with fail
      refine hFl.out.mono ?_
      rintro en wz ⟨rfl, hRz, hKz⟩
      obtain ⟨lz, hlz⟩ : ∃ lz, lz = failL l5 e5 130 := ⟨_, rfl⟩
      obtain ⟨ez, hez⟩ : ∃ ez, ez = failE e5 130 := ⟨_, rfl⟩
      rw [← hlz, ← hez] at hRz
      have hV7 := hV7.out.kept hKz hrbw.out hebw.out hRz
      have q6 : ez ≠ 0 := by
        rw [hez]
        unfold failE
        split
        · decide
        · next c => intro c2; exact c ⟨c2, by decide⟩
      have d3 : (ez != (0 : Int)) = true := by rw [bne_iff_ne]; exact q6
      have htk : takeR l e = (Evp.zero, lz, ez) := by unfold takeR; rw [hlst2.out, ← hlz, ← hez, if_neg q6]
      obtain ⟨so8, n8, c8, a8, _⟩ := hV7.rd.ex
      have t8 : wz.cell? ⟨rb, 1, none⟩ = some (.int .i64 ez) := blk_cell a8 1
      clear t1 d1 d2
      replace a8 := Lib.hid a8
      replace hRz := Lib.hid hRz; replace hKz := Lib.hid hKz; replace q6 := Lib.hid q6; replace htk := Lib.hid htk; replace hlz := Lib.hid hlz; replace hez := Lib.hid hez
      have r0 : wz.cell? ⟨w.heap.size, 0, none⟩ = some (.int .i64 0) := blk_cell hV7.res 0
      have r1 : wz.cell? ⟨w.heap.size, 1, none⟩ = some (.int .i64 0) := blk_cell hV7.res 1
      have r2 : wz.cell? ⟨w.heap.size, 2, none⟩ = some (.int .i64 0) := blk_cell hV7.res 2
      have r3 : wz.cell? ⟨w.heap.size, 3, none⟩ = some (.int .i64 0) := blk_cell hV7.res 3
      have r4 : wz.cell? ⟨w.heap.size, 4, none⟩ = some (.int .i64 0) := blk_cell hV7.res 4
      have r5 : wz.cell? ⟨w.heap.size, 5, none⟩ = some (.int .i64 0) := blk_cell hV7.res 5
      have r6 : wz.cell? ⟨w.heap.size, 6, none⟩ = some (.int .i64 0) := blk_cell hV7.res 6
      have r7 : wz.cell? ⟨w.heap.size, 7, none⟩ = some (.int .i64 0) := blk_cell hV7.res 7
      have r8 : wz.cell? ⟨w.heap.size, 8, none⟩ = some (.int .i64 0) := blk_cell hV7.res 8
      have r9 : wz.cell? ⟨w.heap.size, 9, none⟩ = some (.slice none 0 0) := blk_cell hV7.res 9
      have g0 : wz.frozen? ⟨w.heap.size, 0, none⟩ = false := blk_free hV7.res 0
      have g1 : wz.frozen? ⟨w.heap.size, 1, none⟩ = false := blk_free hV7.res 1
      have g2 : wz.frozen? ⟨w.heap.size, 2, none⟩ = false := blk_free hV7.res 2
      have g3 : wz.frozen? ⟨w.heap.size, 3, none⟩ = false := blk_free hV7.res 3
      have g4 : wz.frozen? ⟨w.heap.size, 4, none⟩ = false := blk_free hV7.res 4
      have g5 : wz.frozen? ⟨w.heap.size, 5, none⟩ = false := blk_free hV7.res 5
      have g6 : wz.frozen? ⟨w.heap.size, 6, none⟩ = false := blk_free hV7.res 6
      have g7 : wz.frozen? ⟨w.heap.size, 7, none⟩ = false := blk_free hV7.res 7
      have g8 : wz.frozen? ⟨w.heap.size, 8, none⟩ = false := blk_free hV7.res 8
      have g9 : wz.frozen? ⟨w.heap.size, 9, none⟩ = false := blk_free hV7.res 9
      obtain ⟨W9, hW9⟩ : ∃ W9, W9 = ((((((((((wz.setCell ⟨w.heap.size, 0, none⟩ (.int .i64 0)).setCell ⟨w.heap.size, 1, none⟩ (.int .i64 0)).setCell ⟨w.heap.size, 2, none⟩ (.int .i64 0)).setCell ⟨w.heap.size, 3, none⟩ (.int .i64 0)).setCell ⟨w.heap.size, 4, none⟩ (.int .i64 0)).setCell ⟨w.heap.size, 5, none⟩ (.int .i64 0)).setCell ⟨w.heap.size, 6, none⟩ (.int .i64 0)).setCell ⟨w.heap.size, 7, none⟩ (.int .i64 0)).setCell ⟨w.heap.size, 8, none⟩ (.int .i64 0)).setCell ⟨w.heap.size, 9, none⟩ (.slice none 0 0)) := ⟨_, rfl⟩
      have hb9 : W9.heap[w.heap.size]? = some (.cells (⟨Evn.zero, none, 0, 0, []⟩ : Evv).cells 43 (0, 0)) := by rw [hW9]; exact set10_box hV7.res
      have hk9 : Kept w.heap.size wz W9 := by rw [hW9]; exact set10_kept ..
      have s0 : W9.cell? ⟨w.heap.size, 0, none⟩ = some (.int .i64 0) := blk_cell hb9 0
      have s1 : W9.cell? ⟨w.heap.size, 1, none⟩ = some (.int .i64 0) := blk_cell hb9 1
      have s2 : W9.cell? ⟨w.heap.size, 2, none⟩ = some (.int .i64 0) := blk_cell hb9 2
      have s3 : W9.cell? ⟨w.heap.size, 3, none⟩ = some (.int .i64 0) := blk_cell hb9 3
      have s4 : W9.cell? ⟨w.heap.size, 4, none⟩ = some (.int .i64 0) := blk_cell hb9 4
      have s5 : W9.cell? ⟨w.heap.size, 5, none⟩ = some (.int .i64 0) := blk_cell hb9 5
      have s6 : W9.cell? ⟨w.heap.size, 6, none⟩ = some (.int .i64 0) := blk_cell hb9 6
      have s7 : W9.cell? ⟨w.heap.size, 7, none⟩ = some (.int .i64 0) := blk_cell hb9 7
      have s8 : W9.cell? ⟨w.heap.size, 8, none⟩ = some (.int .i64 0) := blk_cell hb9 8
      have s9 : W9.cell? ⟨w.heap.size, 9, none⟩ = some (.slice none 0 0) := blk_cell hb9 9
      have hl9 : Below w.heap.size wz W9 := hk9.below (Nat.le_refl _) (blk_lt hV7.res)
      have hR9 := hV7.rd.at hl9 hrbw.out hB.out
      have hKp9 := hV7.kp.then hl9 (Nat.le_refl _)
      have hW9' := Lib.hid hW9
      clear hW9
      replace hV7 := Lib.hid hV7; replace hb9 := Lib.hid hb9; replace hk9 := Lib.hid hk9; replace hl9 := Lib.hid hl9; replace hR9 := Lib.hid hR9; replace hKp9 := Lib.hid hKp9
      go_wp2
      rw [← hW9'.out]
      refine bodyPost_ret (v := (⟨Evn.zero, none, 0, 0, []⟩ : Evv).val) (by simp [results, Tryz.results21, go_sem, s0, s1, s2, s3, s4, s5, s6, s7, s8, s9, Evn.zero]) rfl ?_
      exact ⟨(⟨Evn.zero, none, 0, 0, []⟩ : Evv), rfl, ⟨sps_none _, Nat.le_refl _, rng_kind (k := 0) (by omega)⟩, by rw [htk.out]; rfl, by rw [htk.out]; exact hR9.out, hKp9.out⟩
  · have d1 : (e5 == (0 : Int)) = false := beq_eq_false_iff_ne.2 q5
    have d2 : (e5 != (0 : Int)) = true := bne_iff_ne.2 q5
    have hlst2 : lastR l e = (l5, e5) := by
      rw [hlst.out]
      have f1 : failL l5 e5 130 = l5 := if_neg (fun c => q5 c.1)
      have f2 : failE e5 130 = e5 := if_neg (fun c => q5 c.1)
      rw [f1, f2]
      split <;> rfl
    obtain ⟨lz, hlz⟩ : ∃ lz, lz = l5 := ⟨_, rfl⟩
    obtain ⟨ez, hez⟩ : ∃ ez, ez = e5 := ⟨_, rfl⟩
    have htk : takeR l e = (Evp.zero, lz, ez) := by unfold takeR; rw [hlst2, if_neg q5, hlz, hez]
    rw [← hlz, ← hez] at hV7
    rw [← hez] at t1 d1 d2
    replace hlst2 := Lib.hid hlst2; replace q5 := Lib.hid q5; replace htk := Lib.hid htk; replace hlz := Lib.hid hlz; replace hez := Lib.hid hez
    have r0 : w7.cell? ⟨w.heap.size, 0, none⟩ = some (.int .i64 0) := blk_cell hV7.res 0
    have r1 : w7.cell? ⟨w.heap.size, 1, none⟩ = some (.int .i64 0) := blk_cell hV7.res 1
    have r2 : w7.cell? ⟨w.heap.size, 2, none⟩ = some (.int .i64 0) := blk_cell hV7.res 2
    have r3 : w7.cell? ⟨w.heap.size, 3, none⟩ = some (.int .i64 0) := blk_cell hV7.res 3
    have r4 : w7.cell? ⟨w.heap.size, 4, none⟩ = some (.int .i64 0) := blk_cell hV7.res 4
    have r5 : w7.cell? ⟨w.heap.size, 5, none⟩ = some (.int .i64 0) := blk_cell hV7.res 5
    have r6 : w7.cell? ⟨w.heap.size, 6, none⟩ = some (.int .i64 0) := blk_cell hV7.res 6
    have r7 : w7.cell? ⟨w.heap.size, 7, none⟩ = some (.int .i64 0) := blk_cell hV7.res 7
    have r8 : w7.cell? ⟨w.heap.size, 8, none⟩ = some (.int .i64 0) := blk_cell hV7.res 8
    have r9 : w7.cell? ⟨w.heap.size, 9, none⟩ = some (.slice none 0 0) := blk_cell hV7.res 9
    have g0 : w7.frozen? ⟨w.heap.size, 0, none⟩ = false := blk_free hV7.res 0
    have g1 : w7.frozen? ⟨w.heap.size, 1, none⟩ = false := blk_free hV7.res 1
    have g2 : w7.frozen? ⟨w.heap.size, 2, none⟩ = false := blk_free hV7.res 2
    have g3 : w7.frozen? ⟨w.heap.size, 3, none⟩ = false := blk_free hV7.res 3
    have g4 : w7.frozen? ⟨w.heap.size, 4, none⟩ = false := blk_free hV7.res 4
    have g5 : w7.frozen? ⟨w.heap.size, 5, none⟩ = false := blk_free hV7.res 5
    have g6 : w7.frozen? ⟨w.heap.size, 6, none⟩ = false := blk_free hV7.res 6
    have g7 : w7.frozen? ⟨w.heap.size, 7, none⟩ = false := blk_free hV7.res 7
    have g8 : w7.frozen? ⟨w.heap.size, 8, none⟩ = false := blk_free hV7.res 8
    have g9 : w7.frozen? ⟨w.heap.size, 9, none⟩ = false := blk_free hV7.res 9
    obtain ⟨W9, hW9⟩ : ∃ W9, W9 = ((((((((((w7.setCell ⟨w.heap.size, 0, none⟩ (.int .i64 0)).setCell ⟨w.heap.size, 1, none⟩ (.int .i64 0)).setCell ⟨w.heap.size, 2, none⟩ (.int .i64 0)).setCell ⟨w.heap.size, 3, none⟩ (.int .i64 0)).setCell ⟨w.heap.size, 4, none⟩ (.int .i64 0)).setCell ⟨w.heap.size, 5, none⟩ (.int .i64 0)).setCell ⟨w.heap.size, 6, none⟩ (.int .i64 0)).setCell ⟨w.heap.size, 7, none⟩ (.int .i64 0)).setCell ⟨w.heap.size, 8, none⟩ (.int .i64 0)).setCell ⟨w.heap.size, 9, none⟩ (.slice none 0 0)) := ⟨_, rfl⟩
    have hb9 : W9.heap[w.heap.size]? = some (.cells (⟨Evn.zero, none, 0, 0, []⟩ : Evv).cells 43 (0, 0)) := by rw [hW9]; exact set10_box hV7.res
    have hk9 : Kept w.heap.size w7 W9 := by rw [hW9]; exact set10_kept ..
    have s0 : W9.cell? ⟨w.heap.size, 0, none⟩ = some (.int .i64 0) := blk_cell hb9 0
    have s1 : W9.cell? ⟨w.heap.size, 1, none⟩ = some (.int .i64 0) := blk_cell hb9 1
    have s2 : W9.cell? ⟨w.heap.size, 2, none⟩ = some (.int .i64 0) := blk_cell hb9 2
    have s3 : W9.cell? ⟨w.heap.size, 3, none⟩ = some (.int .i64 0) := blk_cell hb9 3
    have s4 : W9.cell? ⟨w.heap.size, 4, none⟩ = some (.int .i64 0) := blk_cell hb9 4
    have s5 : W9.cell? ⟨w.heap.size, 5, none⟩ = some (.int .i64 0) := blk_cell hb9 5
    have s6 : W9.cell? ⟨w.heap.size, 6, none⟩ = some (.int .i64 0) := blk_cell hb9 6
    have s7 : W9.cell? ⟨w.heap.size, 7, none⟩ = some (.int .i64 0) := blk_cell hb9 7
    have s8 : W9.cell? ⟨w.heap.size, 8, none⟩ = some (.int .i64 0) := blk_cell hb9 8
    have s9 : W9.cell? ⟨w.heap.size, 9, none⟩ = some (.slice none 0 0) := blk_cell hb9 9
    have hl9 : Below w.heap.size w7 W9 := hk9.below (Nat.le_refl _) (blk_lt hV7.res)
    have hR9 := hV7.rd.at hl9 hrbw.out hB.out
    have hKp9 := hV7.kp.then hl9 (Nat.le_refl _)
    have hW9' := Lib.hid hW9
    clear hW9
    replace hV7 := Lib.hid hV7; replace hb9 := Lib.hid hb9; replace hk9 := Lib.hid hk9; replace hl9 := Lib.hid hl9; replace hR9 := Lib.hid hR9; replace hKp9 := Lib.hid hKp9
    go_wp2
    rw [← hW9'.out]
    refine bodyPost_ret (v := (⟨Evn.zero, none, 0, 0, []⟩ : Evv).val) (by simp [results, Tryz.results21, go_sem, s0, s1, s2, s3, s4, s5, s6, s7, s8, s9, Evn.zero]) rfl ?_
    exact ⟨(⟨Evn.zero, none, 0, 0, []⟩ : Evv), rfl, ⟨sps_none _, Nat.le_refl _, rng_kind (k := 0) (by omega)⟩, by rw [htk.out]; rfl, by rw [htk.out]; exact hR9.out, hKp9.out⟩
end Go.Proofs.YteoihdkaoipocaaGreatDoor

/- corveelaw13.EventTakes: any bytes are taken as the document's event, or refused with its error. Plain theorems: no condition. -/
namespace Go.Proofs.YteoihdkaoipocaaGreatDoor
open Go.RowKit Go.Maps

theorem byts_other {w w' : World} {B xb : Nat} {so : Option Addr} {n : Nat} {l : List UInt8} (h : BytsAt w so n l) (h5 : l ≠ [] → ∀ ad, so = some ad → ad.block < B) (hk : Kept xb w w') (hB : B ≤ xb) : BytsAt w' so n l :=
  ⟨h.len, h.max, fun i x hx => by
    obtain ⟨b, off, e1, hlt, hc⟩ := h.cell i x hx
    have hb5 : b < B := h5 (fun c => by rw [c] at hx; simp at hx) _ e1
    refine ⟨b, off, e1, Nat.lt_of_lt_of_le hlt hk.size, ?_⟩
    rw [← hc]
    simp only [World.cell?, hk.block b hlt (by omega)]⟩
theorem Rdr.other {w w' : World} {rb xb B : Nat} {l : List UInt8} {e : Int} (h : Rdr w rb B l e) (hk : Kept xb w w') (hne : rb ≠ xb) (hB : B ≤ xb) : Rdr w' rb B l e := by
  obtain ⟨so, n, c, h1, h2, h3, h4, h5⟩ := h.ex
  exact ⟨so, n, c, hk.blk h1 hne, byts_other h2 h5 hk hB, h3, h4, h5⟩
theorem Rdx.other {w w' : World} {rb xb B : Nat} {l : List UInt8} {e : Int} (h : Rdx w rb B l e) (hk : Kept xb w w') (hne : rb ≠ xb) (hB : B ≤ xb) : Rdx w' rb B l e := by
  obtain ⟨so, n, c, h1, h2, h3, h4, h5⟩ := h.ex
  exact ⟨so, n, c, hk.blk h1 hne, byts_other h2 h5 hk hB, h3, h4, h5⟩
structure TkW (w : World) (rb xb : Nat) (l : List UInt8) (e : Int) (wr : World) : Prop where
  low : Below w.heap.size w wr
  rd : Rdr wr rb rb l e
  rx : Rdx wr xb w.heap.size l e
theorem TkW.go {w wr w' : World} {rb xb : Nat} {l : List UInt8} {e : Int} (h : TkW w rb xb l e wr) (hb : Below wr.heap.size wr w') : TkW w rb xb l e w' :=
  ⟨h.low.trans (hb.mono h.low.size), h.rd.low hb, h.rx.low hb⟩
set_option maxRecDepth 100000 in
set_option maxHeartbeats 6400000 in
theorem etakes_any (so : Option Addr) (n c : Nat) (l : List UInt8) (w : World) (hb : BytsAt w so n l) (hc : n ≤ c) (hso : so = none → n = 0 ∧ c = 0) (hm : Mx w) (ht : Tb w) : Calls Tryz.prog 5 #[.slice so n c] w fun e w' => e = .returned (.bool true) ∧ Below w.heap.size w w' := by
  have hc1 := awake13 w hm ht
  have hmax := hb.max
  by_cases hbig : 20000 < n
  · have d1 : decide ((20000 : Int) < (n : Int)) = true := decide_eq_true (by omega)
    have d1' : decide (20000 < n) = true := decide_eq_true hbig
    replace hc1 := Lib.hid hc1; replace hm := Lib.hid hm; replace ht := Lib.hid ht; replace hb := Lib.hid hb; replace hso := Lib.hid hso
    go_enter Tryz.func5, Tryz.ntmps5
    go_wp2_with fail
    refine hc1.out.mono ?_
    rintro e w1 ⟨rfl, hb1⟩
    replace hb1 := Lib.hid hb1
    go_wp2
    go_ret
    exact ⟨rfl, hb1.out⟩
  have d1 : decide ((20000 : Int) < (n : Int)) = false := decide_eq_false (by omega)
  have d1' : decide (20000 < n) = false := decide_eq_false hbig
  replace hc1 := Lib.hid hc1; replace hm := Lib.hid hm; replace ht := Lib.hid ht; replace hb := Lib.hid hb; replace hso := Lib.hid hso
  go_enter Tryz.func5, Tryz.ntmps5
  go_wp2_with fail
  refine hc1.out.mono ?_
  rintro e w1 ⟨rfl, hb1⟩
  have hcr := cread_any (hb.out.low hb1) hc hso.out
  replace hb1 := Lib.hid hb1; replace hcr := Lib.hid hcr
  go_wp2_with fail
  refine hcr.out.mono ?_
  rintro e w2 ⟨rfl, hR2, hb2⟩
  clear d1 d1'
  obtain ⟨rb, hrb⟩ : ∃ rb, rb = w1.heap.size := ⟨_, rfl⟩
  obtain ⟨xb, hxb⟩ : ∃ xb, xb = w2.heap.size := ⟨_, rfl⟩
  obtain ⟨W3, hW3⟩ : ∃ W3, W3 = w2.alloc (.cells #[.slice so n c, .int .i64 0] 54 (0, 0)) := ⟨_, rfl⟩
  have hb3 : Below w2.heap.size w2 W3 := by rw [hW3]; exact (Below.refl _ _).alloc (Nat.le_refl _) _
  have hlow2 : Below w.heap.size w w2 := hb1.out.trans (hb2.mono hb1.out.size)
  have hlow3 : Below w.heap.size w W3 := hlow2.trans (hb3.mono hlow2.size)
  have hwr : w.heap.size ≤ rb := by rw [hrb]; exact hb1.out.size
  have hrx : rb < xb := by rw [hrb, hxb]; exact hR2.lt
  have hT3 : TkW w rb xb l 0 W3 := by
    refine ⟨hlow3, ?_, ?_⟩
    · have := hR2.low hb3
      rw [← hrb] at this
      exact this
    · exact ⟨so, n, c, by rw [hW3, hxb]; exact blk_new _ _, hb.out.low hlow3, hc, hso.out, byts_lt hb.out⟩
  have hW3' := Lib.hid hW3
  have hrb' := Lib.hid hrb
  have hxb' := Lib.hid hxb
  clear hW3 hrb hxb
  replace hR2 := Lib.hid hR2; replace hb2 := Lib.hid hb2; replace hb3 := Lib.hid hb3; replace hlow2 := Lib.hid hlow2; replace hlow3 := Lib.hid hlow3; replace hwr := Lib.hid hwr; replace hrx := Lib.hid hrx; replace hT3 := Lib.hid hT3
  go_upto_region 8 with fail
  rw [← hW3'.out, ← hrb'.out, ← hxb'.out]
  go_wp2
  go_loopw [6, 7, 8] (fun iv _ _ wr => ∃ (k : Nat) (l' : List UInt8) (e' : Int), iv = .int .i64 k ∧ k ≤ 3 ∧ Hid (TkW w rb xb l' e' wr)) (fun iv _ _ _ => 3 - (intOf iv).toNat)
  case atStart => exact ⟨0, l, 0, rfl, Nat.zero_le _, hT3.out⟩
  case round =>
    obtain ⟨k, la, ea, rfl, hk, hT⟩ := hrel
    rename World => wo
    by_cases hk3 : k < 3
    · have hk1 : (k : Int) < 3 := by omega
      have hrbl := hT.out.rd.lt
      have hxbl := hT.out.rx.lt
      have htk := etake_any hT.out.rd (Nat.le_of_lt hrbl) hm.out ht.out hT.out.low hwr.out
      obtain ⟨l', hl'⟩ : ∃ v, v = (takeR la ea).2.1 := ⟨_, rfl⟩
      obtain ⟨e', he'⟩ : ∃ v, v = (takeR la ea).2.2 := ⟨_, rfl⟩
      obtain ⟨P, hP⟩ : ∃ v, v = (takeR la ea).1 := ⟨_, rfl⟩
      unfold TakePost at htk
      rw [← hl', ← he', ← hP] at htk
      replace htk := Lib.hid htk; replace hl' := Lib.hid hl'; replace he' := Lib.hid he'; replace hP := Lib.hid hP; replace hrbl := Lib.hid hrbl; replace hxbl := Lib.hid hxbl
      go_wp2_with fail
      refine htk.out.mono ?_
      rintro e w4 ⟨X, rfl, hXo, hXp, hR4, hK4, hXf⟩
      obtain ⟨⟨kind, epoch, tick, client, seq, job, attempt, node, how⟩, xo, xm, xc, xsp⟩ := X
      obtain ⟨eb, heb⟩ : ∃ eb, eb = w4.heap.size := ⟨_, rfl⟩
      obtain ⟨W5, hW5⟩ : ∃ W5, W5 = w4.alloc (.cells (⟨⟨kind, epoch, tick, client, seq, job, attempt, node, how⟩, xo, xm, xc, xsp⟩ : Evv).cells 43 (0, 0)) := ⟨_, rfl⟩
      have hb5 : Below w4.heap.size w4 W5 := by rw [hW5]; exact (Below.refl _ _).alloc (Nat.le_refl _) _
      have he5 : W5.heap[eb]? = some (.cells (⟨⟨kind, epoch, tick, client, seq, job, attempt, node, how⟩, xo, xm, xc, xsp⟩ : Evv).cells 43 (0, 0)) := by rw [hW5, heb]; exact blk_new _ _
      have hX5 := hXo.low hb5
      have hR5 := hR4.low hb5
      have hlow4 : Below w.heap.size w w4 := hT.out.low.trans (hK4.below hwr.out hrbl.out)
      have hlow5 := hlow4.trans (hb5.mono hlow4.size)
      have hx4 : Rdx w4 xb w.heap.size la ea := hT.out.rx.other hK4 (by have := hrx.out; omega) hwr.out
      have hx5 := hx4.low hb5
      have hxk := xtake_any hx5 hlow5.size
      unfold XkPost at hxk
      rw [← hl'.out, ← he'.out, ← hP.out] at hxk
      have hebx : eb ≠ xb := by have := hx4.lt; omega
      have hW5' := Lib.hid hW5
      have heb' := Lib.hid heb
      clear hW5 heb
      replace hXo := Lib.hid hXo; replace hXp := Lib.hid hXp; replace hR4 := Lib.hid hR4; replace hK4 := Lib.hid hK4; replace hXf := Lib.hid hXf; replace hb5 := Lib.hid hb5; replace he5 := Lib.hid he5; replace hX5 := Lib.hid hX5; replace hR5 := Lib.hid hR5; replace hlow4 := Lib.hid hlow4; replace hlow5 := Lib.hid hlow5; replace hx4 := Lib.hid hx4; replace hx5 := Lib.hid hx5; replace hxk := Lib.hid hxk; replace hebx := Lib.hid hebx
      go_upto_region 12 with fail
      rw [← hW5'.out, ← heb'.out]
      go_wp2_with fail
      refine hxk.out.mono ?_
      rintro e w6 ⟨Y, rfl, hYo, hYp, hR6, hK6⟩
      obtain ⟨⟨kind2, epoch2, tick2, client2, seq2, job2, attempt2, node2, how2⟩, yo, ym, yc, ysp⟩ := Y
      obtain ⟨yb, hyb⟩ : ∃ yb, yb = w6.heap.size := ⟨_, rfl⟩
      obtain ⟨W7, hW7⟩ : ∃ W7, W7 = w6.alloc (.cells (⟨⟨kind2, epoch2, tick2, client2, seq2, job2, attempt2, node2, how2⟩, yo, ym, yc, ysp⟩ : Evv).cells 43 (0, 0)) := ⟨_, rfl⟩
      have hb7 : Below w6.heap.size w6 W7 := by rw [hW7]; exact (Below.refl _ _).alloc (Nat.le_refl _) _
      have hy7 : W7.heap[yb]? = some (.cells (⟨⟨kind2, epoch2, tick2, client2, seq2, job2, attempt2, node2, how2⟩, yo, ym, yc, ysp⟩ : Evv).cells 43 (0, 0)) := by rw [hW7, hyb]; exact blk_new _ _
      have hwx : w.heap.size ≤ xb := by have := hwr.out; have := hrx.out; omega
      have hxl5 := hx5.out.lt
      have hlow6 : Below w.heap.size w w6 := hlow5.out.trans (hK6.below hwx hxl5)
      have hr6 : Rdr w6 rb rb l' e' := hR5.out.other hK6 (by have := hrx.out; omega) (by have := hrx.out; omega)
      have hT7 : TkW w rb xb l' e' W7 := (⟨hlow6, hr6, hR6⟩ : TkW w rb xb l' e' w6).go hb7
      have he7 := blk_below hb7 (hK6.blk he5.out hebx.out) (blk_lt (hK6.blk he5.out hebx.out))
      have hX6 := hX5.out.kept hXf.out hK6 (by have := hxbl.out; omega)
      have hX7 := hX6.low hb7
      have hY7 := hYo.low hb7
      have hpl : (⟨⟨kind, epoch, tick, client, seq, job, attempt, node, how⟩, xo, xm, xc, xsp⟩ : Evv).pl = (⟨⟨kind2, epoch2, tick2, client2, seq2, job2, attempt2, node2, how2⟩, yo, ym, yc, ysp⟩ : Evv).pl := hXp.out.trans hYp.symm
      have hsm : ∀ W, Below W7.heap.size W7 W → Calls Tryz.prog 22 #[(⟨⟨kind, epoch, tick, client, seq, job, attempt, node, how⟩, xo, xm, xc, xsp⟩ : Evv).val, (⟨⟨kind2, epoch2, tick2, client2, seq2, job2, attempt2, node2, how2⟩, yo, ym, yc, ysp⟩ : Evv).val] W fun e w' => e = .returned (.bool true) ∧ Below W.heap.size W w' := fun W h => esame_yes _ _ W (hX7.low h) (hY7.low h) hpl
      have her : ∀ W, Below W7.heap.size W7 W → Calls Tryz.prog 23 #[.pointer (some ⟨rb, 0, none⟩)] W fun en w' => en = .returned (.int .i64 e') ∧ w' = W := fun W h => rerr_any (hT7.rd.low h)
      have hlf : ∀ W, Below W7.heap.size W7 W → Calls Tryz.prog 24 #[.pointer (some ⟨rb, 0, none⟩)] W fun en w' => en = .returned (.int .i64 l'.length) ∧ w' = W := fun W h => rleft_any (hT7.rd.low h)
      obtain ⟨so7, L7, c7, g1, g2, g3, g4, g5⟩ := hT7.rx.ex
      have hL7 : l'.length = L7 := g2.len
      simp only [hL7] at hlf
      have dE : (e' != e') = false := by simp
      have dL : ((L7 : Int) != (L7 : Int)) = false := by simp
      have hS : ∀ W', Below W7.heap.size W7 W' → W'.cell? ⟨eb, 0, none⟩ = some (.int .i64 kind) ∧ W'.cell? ⟨eb, 1, none⟩ = some (.int .i64 epoch) ∧ W'.cell? ⟨eb, 2, none⟩ = some (.int .i64 tick) ∧ W'.cell? ⟨eb, 3, none⟩ = some (.int .i64 client) ∧ W'.cell? ⟨eb, 4, none⟩ = some (.int .i64 seq) ∧ W'.cell? ⟨eb, 5, none⟩ = some (.int .i64 job) ∧ W'.cell? ⟨eb, 6, none⟩ = some (.int .i64 attempt) ∧ W'.cell? ⟨eb, 7, none⟩ = some (.int .i64 node) ∧ W'.cell? ⟨eb, 8, none⟩ = some (.int .i64 how) ∧ W'.cell? ⟨eb, 9, none⟩ = some (.slice xo xm xc) ∧ W'.cell? ⟨yb, 0, none⟩ = some (.int .i64 kind2) ∧ W'.cell? ⟨yb, 1, none⟩ = some (.int .i64 epoch2) ∧ W'.cell? ⟨yb, 2, none⟩ = some (.int .i64 tick2) ∧ W'.cell? ⟨yb, 3, none⟩ = some (.int .i64 client2) ∧ W'.cell? ⟨yb, 4, none⟩ = some (.int .i64 seq2) ∧ W'.cell? ⟨yb, 5, none⟩ = some (.int .i64 job2) ∧ W'.cell? ⟨yb, 6, none⟩ = some (.int .i64 attempt2) ∧ W'.cell? ⟨yb, 7, none⟩ = some (.int .i64 node2) ∧ W'.cell? ⟨yb, 8, none⟩ = some (.int .i64 how2) ∧ W'.cell? ⟨yb, 9, none⟩ = some (.slice yo ym yc) ∧ W'.cell? ⟨xb, 0, none⟩ = some (.slice so7 L7 c7) ∧ W'.cell? ⟨xb, 1, none⟩ = some (.int .i64 e') := fun W' h => by
        have h1 := blk_below h he7 (blk_lt he7)
        have h2 := blk_below h hy7 (blk_lt hy7)
        have h3 := blk_below h g1 (blk_lt g1)
        exact ⟨blk_cell h1 0, blk_cell h1 1, blk_cell h1 2, blk_cell h1 3, blk_cell h1 4, blk_cell h1 5, blk_cell h1 6, blk_cell h1 7, blk_cell h1 8, blk_cell h1 9, blk_cell h2 0, blk_cell h2 1, blk_cell h2 2, blk_cell h2 3, blk_cell h2 4, blk_cell h2 5, blk_cell h2 6, blk_cell h2 7, blk_cell h2 8, blk_cell h2 9, blk_cell h3 0, blk_cell h3 1⟩
      have hcur : Below W7.heap.size W7 W7.drew := (Below.refl _ _).drew
      have hW7' := Lib.hid hW7
      have hyb' := Lib.hid hyb
      clear hW7 hyb
      replace hYo := Lib.hid hYo; replace hYp := Lib.hid hYp; replace hR6 := Lib.hid hR6; replace hK6 := Lib.hid hK6; replace hb7 := Lib.hid hb7; replace hy7 := Lib.hid hy7; replace hwx := Lib.hid hwx; replace hxl5 := Lib.hid hxl5; replace hlow6 := Lib.hid hlow6; replace hr6 := Lib.hid hr6; replace hT7 := Lib.hid hT7; replace he7 := Lib.hid he7; replace hX6 := Lib.hid hX6; replace hX7 := Lib.hid hX7; replace hY7 := Lib.hid hY7; replace hpl := Lib.hid hpl; replace hsm := Lib.hid hsm; replace her := Lib.hid her; replace hlf := Lib.hid hlf; replace hS := Lib.hid hS; replace hcur := Lib.hid hcur; replace hL7 := Lib.hid hL7; replace g1 := Lib.hid g1; replace g2 := Lib.hid g2; replace g3 := Lib.hid g3; replace g4 := Lib.hid g4; replace g5 := Lib.hid g5
      go_upto_region 13 with fail
      rw [← hW7'.out, ← hyb'.out]
      go_cut [50] (fun bv wx => RwC W7 false bv wx)
      case first =>
        go_region_held3 (fun W' => W'.cell? ⟨eb, 0, none⟩ = some (.int .i64 kind) ∧ W'.cell? ⟨eb, 1, none⟩ = some (.int .i64 epoch) ∧ W'.cell? ⟨eb, 2, none⟩ = some (.int .i64 tick) ∧ W'.cell? ⟨eb, 3, none⟩ = some (.int .i64 client) ∧ W'.cell? ⟨eb, 4, none⟩ = some (.int .i64 seq) ∧ W'.cell? ⟨eb, 5, none⟩ = some (.int .i64 job) ∧ W'.cell? ⟨eb, 6, none⟩ = some (.int .i64 attempt) ∧ W'.cell? ⟨eb, 7, none⟩ = some (.int .i64 node) ∧ W'.cell? ⟨eb, 8, none⟩ = some (.int .i64 how) ∧ W'.cell? ⟨eb, 9, none⟩ = some (.slice xo xm xc) ∧ W'.cell? ⟨yb, 0, none⟩ = some (.int .i64 kind2) ∧ W'.cell? ⟨yb, 1, none⟩ = some (.int .i64 epoch2) ∧ W'.cell? ⟨yb, 2, none⟩ = some (.int .i64 tick2) ∧ W'.cell? ⟨yb, 3, none⟩ = some (.int .i64 client2) ∧ W'.cell? ⟨yb, 4, none⟩ = some (.int .i64 seq2) ∧ W'.cell? ⟨yb, 5, none⟩ = some (.int .i64 job2) ∧ W'.cell? ⟨yb, 6, none⟩ = some (.int .i64 attempt2) ∧ W'.cell? ⟨yb, 7, none⟩ = some (.int .i64 node2) ∧ W'.cell? ⟨yb, 8, none⟩ = some (.int .i64 how2) ∧ W'.cell? ⟨yb, 9, none⟩ = some (.slice yo ym yc) ∧ W'.cell? ⟨xb, 0, none⟩ = some (.slice so7 L7 c7) ∧ W'.cell? ⟨xb, 1, none⟩ = some (.int .i64 e'))
          (first
            | with_reducible exact hS.out _ hcur.out)
          (first
            | (go_at_call 22
               (with_reducible refine (hsm.out _ hcur.out).mono ?_)
               rintro e wz ⟨rfl, hbz⟩
               replace hcur := Lib.hid (hcur.out.trans (hbz.mono hcur.out.size))
               clear hbz)
            | (go_at_call 23
               (with_reducible refine (her.out _ hcur.out).mono ?_)
               rintro e wz ⟨rfl, rfl⟩)
            | (go_at_call 24
               (with_reducible refine (hlf.out _ hcur.out).mono ?_)
               rintro e wz ⟨rfl, rfl⟩))
        all_goals
          go_wp2_with fail
          go_meet
          case rel => exact ⟨rfl, hcur.out⟩
      case rest =>
      obtain ⟨rfl, hb9⟩ := hcut
      have hT9 := hT7.out.go hb9
      replace hb9 := Lib.hid hb9; replace hT9 := Lib.hid hT9
      go_wp2
      go_roundw
      case rel => exact ⟨k + 1, l', e', by go_num, by omega, hT9.out⟩
      case measure => simp [intOf]; omega
    · have hk1 : ¬ (k : Int) < 3 := by omega
      go_wp2
      go_ret
      exact ⟨rfl, hT.out.low⟩
end Go.Proofs.YteoihdkaoipocaaGreatDoor

namespace Go.Proofs.YteoihdkaoipocaaGreatDoor
open Go.ChangeShapes Go.WideShapes Go.ChangeAt Go.RowKit Go.ChangeMaps

set_option maxRecDepth 100000 in
theorem eventTakes_lifted (os : Os) (started : os.Started) (H : Type) (enc : TypeId × Value → H) :
    ReturnsInHanded {} Tryz.checked os 5 .any (fun w args => (Rows.eventTakesSpec.pre enc Tryz.prog Tryz.f5 Rows.eventTakesRow.domain false w args ∧ laidMetH Tryz.prog Rows.eventTakesRow.laid w) ∧ sizedMet enc Tryz.prog Tryz.f5 (OpenSpec.ofChange Rows.eventTakesSpec) false w args)
      (Rows.eventTakesSpec.post enc Tryz.prog Tryz.f5 false true false false) := by
  refine returns_laid (C := Tryz.checked) (X := fun w _ => laidMetH Tryz.prog Rows.eventTakesRow.laid w) (fun _ _ _ hh h => h.of_heap hh) own started (by kernel_rfl) Tryz.func5
    (ChangeSpec.witness_shaped (enc := enc) (C := Tryz.checked) (os := os) (X := fun w _ => laidMetH Tryz.prog Rows.eventTakesRow.laid w) false (World.laidAll Tryz.prog os Rows.eventTakesRow.laid) #[.slice none 0 0] 8 (World.laidAll_os _ _ _)
      (World.shaped_of_ZipB (by kernel_rfl) (by kernel_rfl)) (by kernel_rfl) (by kernel_rfl) (by kernel_rfl)
      (by rw [MakeChecks.laidMetH_plain _ _ _ (by kernel_rfl)]; exact laidMet_laidAll _ (by kernel_rfl) (by kernel_rfl))) ?_
  intro W base args ds gs before hval0 hW hc hL hsh
  have hval : ∀ (j : Nat) t v, Tryz.f5.params[j]? = some t → args[j]? = some v → Value.okWide Tryz.prog W .any base t v := hval0
  have hW' := hW
  obtain ⟨p, q, hA0, hV, rfl, _, _⟩ := hW
  have hA : DataW.TrodAll enc Tryz.prog W 0 (fun _ => true) true Tryz.f5.params.toList args.toList ds p := hA0
  rw [Tryz.params5] at hA hval
  obtain ⟨v0, d0, rfl, rfl, h0⟩ := trodAll_one hA
  obtain ⟨rfl, rfl⟩ := trodVars_none hV
  obtain ⟨ao0, n0, c0, l0, rfl, hx0, hnc0, hso0⟩ := open_bytes (hval 0 40 v0 rfl rfl) h0
  clear hA0 hval0
  refine (etakes_any ao0 n0 c0 l0 W hx0 hnc0 hso0 (mx_shaped hsh) (tb_of_laid (fun w => MakeChecks.laidMetH_plain _ _ w (by kernel_rfl)) hL)).mono fun e W' ⟨he, hw⟩ => ?_
  subst he
  refine ⟨_, rfl, post_of_below hW' rfl (fun _ _ _ => ?_) rfl rfl hw ?_⟩
  · have hrt : Tryz.f5.resultTypes = #[4] := by kernel_rfl
    rw [hrt]
    exact trodAll_mk1 ⟨1, by simp [DataW.trod, Value.cells, Tryz.underlying4]⟩
  · rw [Tryz.params5]
    intro t ht
    have hm : t ∈ [40] := by simpa using ht
    have hall : ([40].all fun u => Tryz.prog.readableRec u && decide (u < Tryz.prog.types.size)) = true := by kernel_rfl
    have := List.all_eq_true.1 hall t hm
    rw [Bool.and_eq_true] at this
    exact ⟨this.1, of_decide_eq_true this.2⟩
theorem eventTakes_row : Rows.EventTakesSaid :=
  OpenClaim.holds_of_wide 5 Tryz.f5 rfl rfl rfl rfl rfl rfl rfl ⟨rfl, rfl, rfl, rfl, rfl⟩ rfl rfl rfl rfl rfl (by kernel_rfl) Tryz.func5 (by kernel_rfl)
    (of_decide_eq_true (by kernel_rfl)) (by unfold Func.isWrapper; first | (rw [if_pos (by decide +kernel)]; kernel_rfl) | (rw [if_neg (by decide +kernel)]; exact ⟨rfl, rfl⟩))
    (fun os started H enc _ => eventTakes_lifted os started H enc)
theorem eventTakes_holds : Rows.EventTakesCardSaid :=
  Claim7.holds_tied_plain_at .later [] [.data, .data, .data, .data, .pinned] true (true, "a8c09d38ae34f031165ba41639bffd1201e1848b2ee5c077e12c68de6cfd4722") false eventTakes_row (fun _ h => by cases h) (by kernel_rfl) (fun _ h => by cases h) eventTakes_row_tie rfl ⟨rfl, rfl⟩ (by kernel_rfl) rfl
    (fun f fn hf hfn => by
      obtain rfl : f = 5 := Option.some.inj ((show Tryz.prog.funcNamed "corvee/corveelaw13.EventTakes" = some 5 by kernel_rfl).symm.trans hf) |>.symm
      obtain rfl : fn = Tryz.f5 := (Option.some.inj (Tryz.func5.symm.trans hfn)).symm
      exact ⟨by kernel_rfl, fun j t ht => by
        rw [Tryz.params5] at ht
        have hm : t ∈ [40] := by simpa using Array.mem_of_getElem? ht
        have hall : ([40].all fun u => !Tryz.prog.wantsStandIn u) = true := by kernel_rfl
        exact (show Tryz.prog.wantsStandIn t = false by simpa using List.all_eq_true.1 hall t hm)⟩)
    (by kernel_rfl)
end Go.Proofs.YteoihdkaoipocaaGreatDoor
