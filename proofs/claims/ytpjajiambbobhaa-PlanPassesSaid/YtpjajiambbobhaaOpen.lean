/- What the arguments of these statements read as, opened: an amount, an act, a row of acts; and what closes a statement whose code turned nothing that was there before. Plain theorems: no condition. -/
import Derived.Test.YtpjajiambbobhaaTaken
import Derived.ProofKit
import Derived.Deep.Slices
import Derived.Lib.SmallJoins
namespace Go.Proofs.Ytpjajiambbobhaa
open Go.ChangeShapes Go.WideShapes Go.ChangeAt Go.RowKit

theorem Try.own : ownKnob Try.prog.godebug = none := by kernel_rfl
theorem Try.laidOut : laidOutB Try.prog = true := by kernel_rfl
theorem Try.c3 : Try.prog.cellsOf 3 = 1 := by kernel_rfl
theorem Try.c23 : Try.prog.cellsOf 23 = 4 := by kernel_rfl
theorem Try.c26 : Try.prog.cellsOf 26 = 7 := by kernel_rfl

theorem list4 {α : Type} {l : List α} (h : l.length = 4) : ∃ a b c d, l = [a, b, c, d] := by
  match l, h with
  | [a, b, c, d], _ => exact ⟨a, b, c, d, rfl⟩
theorem list7 {α : Type} {l : List α} (h : l.length = 7) : ∃ a b c d e f g, l = [a, b, c, d, e, f, g] := by
  match l, h with
  | [a, b, c, d, e, f, g], _ => exact ⟨a, b, c, d, e, f, g, rfl⟩

section
variable {H : Type} {enc : TypeId × Value → H} {w : World} {base : Nat} {spare : Nat → Bool} {held : Bool} {fuel : Nat} {cs : List Value} {x : DataW H × List MemPlace}

theorem vec_of_trod (h : DataW.trod enc Try.prog w base spare held fuel 23 cs = some x) : ∃ v : V4, cs = v.cells.toList := by
  obtain ⟨xs, m, _, _, hl, hn, hi⟩ := DataW.trod_array Try.underlying23 h
  rw [Try.c23] at hl
  obtain ⟨c0, c1, c2, c3, rfl⟩ := list4 hl
  · have one : ∀ i, i < 4 → ∀ c : Value, (([c0, c1, c2, c3].drop (i * Try.prog.cellsOf 3)).take (Try.prog.cellsOf 3)) = [c] → ∃ n, c = .int .i64 n := fun i h4 c hc => by
      have h1 := hi i h4
      rw [hc, List.getElem?_eq_getElem (by omega)] at h1
      obtain ⟨n, e, _⟩ := DataW.trod_int Try.underlying3 h1
      exact ⟨n, by simpa using e⟩
    obtain ⟨n0, rfl⟩ := one 0 (by omega) c0 (by simp [Try.c3])
    obtain ⟨n1, rfl⟩ := one 1 (by omega) c1 (by simp [Try.c3])
    obtain ⟨n2, rfl⟩ := one 2 (by omega) c2 (by simp [Try.c3])
    obtain ⟨n3, rfl⟩ := one 3 (by omega) c3 (by simp [Try.c3])
    exact ⟨⟨n0, n1, n2, n3⟩, rfl⟩

theorem act_of_trod (h : DataW.trod enc Try.prog w base spare held fuel 26 cs = some x) : ∃ a : Act6, cs = [.int .i64 a.kind, .int .i64 a.fr, .int .i64 a.tt, .int .i64 a.v.a, .int .i64 a.v.b, .int .i64 a.v.c, .int .i64 a.v.d] := by
  obtain ⟨y0, y1, y2, y3, n, _, hl, h0, h1, h2, h3⟩ := Go.Joins.trod_struct4 Try.underlying26 h
  rw [Try.c26] at hl
  obtain ⟨c0, c1, c2, c3, c4, c5, c6, rfl⟩ := list7 hl
  · simp [Try.c3] at h0 h1 h2
    simp [Try.c23] at h3
    obtain ⟨n0, e0, _⟩ := DataW.trod_int Try.underlying3 h0
    obtain ⟨n1, e1, _⟩ := DataW.trod_int Try.underlying3 h1
    obtain ⟨n2, e2, _⟩ := DataW.trod_int Try.underlying3 h2
    obtain ⟨v, ev⟩ := vec_of_trod h3
    simp at e0 e1 e2 ev
    obtain ⟨rfl, rfl, rfl, rfl⟩ := ev
    subst e0; subst e1; subst e2
    exact ⟨⟨n0, n1, n2, v⟩, rfl⟩
end

section
variable {H : Type} {enc : TypeId × Value → H} {w : World} {spare : Nat → Bool} {held : Bool} {base b0 : Nat} {r : Reach} {v : Value} {d : DataW H} {p : List MemPlace}

set_option maxRecDepth 100000 in
theorem open_vec (hv : Value.okWide Try.prog w r b0 23 v) (h : DataW.Trod enc Try.prog w base spare held 23 v d p) : ∃ a : V4, v = a.val := by
  simp only [Value.okWide, Try.underlying23] at hv
  obtain ⟨cs, rfl, _⟩ := hv
  obtain ⟨fuel, hf⟩ := h
  obtain ⟨a, e⟩ := vec_of_trod hf
  have : cs = a.cells := by
    cases cs
    simpa [Value.cells] using e
  exact ⟨a, by rw [this]⟩

set_option maxRecDepth 100000 in
theorem open_act (hv : Value.okWide Try.prog w r b0 26 v) (h : DataW.Trod enc Try.prog w base spare held 26 v d p) : ∃ a : Act6, v = a.val := by
  obtain ⟨cs, rfl, _⟩ := okWide_struct Try.underlying26 hv
  obtain ⟨fuel, hf⟩ := h
  obtain ⟨a, e⟩ := act_of_trod hf
  refine ⟨a, ?_⟩
  cases cs
  simp [Value.cells] at e
  simp [e]

set_option maxRecDepth 100000 in
theorem open_acts (hv : Value.okWide Try.prog w r b0 24 v) (h : DataW.Trod enc Try.prog w 0 (fun _ => true) held 24 v d p) : ∃ acts : List Act6, ActsAt w v acts := by
  obtain ⟨fuel, hf⟩ := h
  have hone : ∃ u, v.cells.toList = [u] → v = u := ⟨v, fun _ => rfl⟩
  rcases Go.Deep.open_slice Try.underlying24 hf with ⟨hcs, _⟩ | ⟨a, len, cap, m, n, D, Pl, hcs, _, hl, hm, hmm, _, hi⟩
  · refine ⟨[], none, 0, ?_, by simp, fun i hi => by simp at hi⟩
    simp only [Value.okWide, Try.underlying24, Cell.okWide] at hv
    cases v <;> simp_all [Value.cells, Cell.ok]
  · have hvs : v = .slice (some a) len cap := by
      simp only [Value.okWide, Try.underlying24, Cell.okWide] at hv
      cases v <;> simp_all [Value.cells, Cell.ok]
    have mx : maxLen = 9223372036854775807 := by kernel_rfl
    have hc : ∀ i, i < len → ∃ x : Act6, ∀ j, j < 7 → w.cell? (a.add (i * 7 + j)) = x.val.cells.toList[j]? := fun i hil => by
      obtain ⟨cs', hc, ht⟩ := hi i (by rw [hmm]; simp; omega)
      obtain ⟨x, rfl⟩ := act_of_trod ht
      obtain ⟨_, _, hat⟩ := World.cells?_some hc
      rw [Try.c26] at hat
      exact ⟨x, fun j hj => by rw [← Go.Deep.add_add]; exact hat j hj⟩
    have hch : ∃ f : Nat → Act6, ∀ i, i < len → ∀ j, j < 7 → w.cell? (a.add (i * 7 + j)) = (f i).val.cells.toList[j]? :=
      ⟨fun i => if h : i < len then (hc i h).choose else Act6.zero, fun i hil => by simp only [hil, dif_pos]; exact (hc i hil).choose_spec⟩
    obtain ⟨f, hf2⟩ := hch
    refine ⟨(List.range len).map f, some a, cap, by simpa using hvs, by simp; rw [mx] at hm; omega, fun i hil => ?_⟩
    simp at hil
    have hx : act ((List.range len).map f) i = f i := by simp [act, List.getD, hil]
    have h0 : w.cell? (a.add (0 * 7 + 0)) = some (.int .i64 (f 0).kind) := hf2 0 (by omega) 0 (by omega)
    obtain ⟨b, off, spot⟩ := a
    have hsp : spot = none := by simpa [Addr.add] using World.cell?_spot h0
    subst hsp
    have e : ∀ j, j < 7 → w.cell? ⟨b, off + i * 7 + j, none⟩ = (f i).val.cells.toList[j]? := fun j hj => by
      rw [← hf2 i hil j hj, add_plain, Nat.add_assoc]
    refine ⟨b, off, rfl, World.block_lt_of_cell? w _ (show w.cell? ⟨b, off + i * 7 + 0, none⟩ = some (.int .i64 (f i).kind) from e 0 (by omega)), ?_⟩
    rw [hx]
    exact ⟨e 0 (by omega), e 1 (by omega), e 2 (by omega), e 3 (by omega), e 4 (by omega), e 5 (by omega), e 6 (by omega)⟩

/-- the arguments read as they did, when nothing below the old size has turned -/
theorem trodAll_below {W W' : World} (hb : Below W.heap.size W W') : ∀ (ts : List TypeId) (vs : List Value) (ds : List (DataW H)) (ps : List MemPlace),
    DataW.TrodAll enc Try.prog W 0 (fun _ => true) true ts vs ds ps → (∀ x ∈ ps, x.block < W.heap.size) → (∀ t ∈ ts, Try.prog.readableRec t = true ∧ t < Try.prog.types.size) →
    DataW.TrodAll enc Try.prog W' 0 (fun b => decide (b < W.heap.size)) true ts vs ds ps
  | [], [], [], _, h, _, _ => h
  | [], _ :: _, _, _, h, _, _ => h.elim
  | [], [], _ :: _, _, h, _, _ => h.elim
  | _ :: _, [], _, _, h, _, _ => h.elim
  | _ :: _, _ :: _, [], _, h, _, _ => h.elim
  | t :: ts, v :: vs, d :: ds, ps, h, hlt, hr => by
    obtain ⟨p, q, h1, h2, rfl⟩ := h
    obtain ⟨r1, r2⟩ := hr t (by simp)
    exact ⟨p, q, Below.trod Try.laidOut r1 r2 h1 hb (fun x hx => hlt x (by simp [hx])), trodAll_below hb ts vs ds q h2 (fun x hx => hlt x (by simp [hx])) (fun u hu => hr u (by simp [hu])), rfl⟩

theorem post_of_below {f : Func} {s : ChangeSpec} {apart fresh handsOn : Bool} {W W' : World} {args : Array Value} {v : Value} {ds gs : List (DataW H)} {before : List MemPlace}
    (hW : DataW.Whole enc Try.prog f.params.toList s.vars apart W args.toList ds gs before) (hs : s.vars = []) 
    (hres : ∀ (b : Nat) (sp : Nat → Bool) (hd : Bool), DataW.TrodAll enc Try.prog W' b sp hd f.resultTypes.toList (v.resultList f.resultTypes.size) (s.fn H (ds ++ gs)).results [])
    (hargs : (s.fn H (ds ++ gs)).args = ds) (hv : (s.fn H (ds ++ gs)).vars = []) (hb : Below W.heap.size W W')
    (hr : ∀ t ∈ f.params.toList, Try.prog.readableRec t = true ∧ t < Try.prog.types.size) :
    s.post enc Try.prog f apart fresh handsOn false W args v W' := by
  have hlt := hW.lt
  have hW' := hW
  obtain ⟨p, q, hA, hV, rfl, hfz, hnd⟩ := hW
  rw [hs] at hV
  obtain ⟨rfl, rfl⟩ := trodVars_none hV
  refine ⟨ds, [], p ++ [], [], p, [], hW', hres _ _ _, ?_, ?_, hb.frame _, fun h => by simp at h⟩
  · rw [hargs]
    exact trodAll_below hb _ _ _ _ hA (fun x hx => by simpa using hlt x (by simp [hx])) hr
  · rw [hv, hs]
    rfl
end
end Go.Proofs.Ytpjajiambbobhaa
