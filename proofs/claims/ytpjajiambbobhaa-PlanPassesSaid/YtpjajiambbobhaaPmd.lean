/- plan: arguments opened, few and awake walked, the document's places and gang. -/
import Derived.Test.YtpjajiambbobhaaPmb
import Derived.Test.YtpjajiambbobhaaOpeo
import Derived.Test.YtpjajiambbobhaaPmc
import Derived.Test.YtpjajiambbobhaaGawake
import Derived.Test.YtpjajiambbobhaaPma
/- What the arguments of the statements about plans read as, opened: a scene, an ask, a row of slots. Plain theorems: no condition. -/
namespace Go.Proofs.Ytpjajiambbobhaa
open Go.ChangeShapes Go.WideShapes Go.ChangeAt Go.RowKit

theorem Try.c4 : Try.prog.cellsOf 4 = 1 := by kernel_rfl
theorem Try.c53 : Try.prog.cellsOf 53 = 1 := by kernel_rfl
theorem Try.c73 : Try.prog.cellsOf 73 = 1 := by kernel_rfl
theorem Try.c74 : Try.prog.cellsOf 74 = 1 := by kernel_rfl
theorem Try.c75 : Try.prog.cellsOf 75 = 1 := by kernel_rfl
theorem Try.c77 : Try.prog.cellsOf 77 = 5 := by kernel_rfl
theorem Try.c84 : Try.prog.cellsOf 84 = 10 := by kernel_rfl
theorem Try.c88 : Try.prog.cellsOf 88 = 3 := by kernel_rfl
theorem Try.c94 : Try.prog.cellsOf 94 = 6 := by kernel_rfl

theorem list3 {α : Type} {l : List α} (h : l.length = 3) : ∃ a b c, l = [a, b, c] := by
  match l, h with
  | [a, b, c], _ => exact ⟨a, b, c, rfl⟩
theorem list5 {α : Type} {l : List α} (h : l.length = 5) : ∃ a b c d e, l = [a, b, c, d, e] := by
  match l, h with
  | [a, b, c, d, e], _ => exact ⟨a, b, c, d, e, rfl⟩
theorem list6 {α : Type} {l : List α} (h : l.length = 6) : ∃ a b c d e f, l = [a, b, c, d, e, f] := by
  match l, h with
  | [a, b, c, d, e, f], _ => exact ⟨a, b, c, d, e, f, rfl⟩
theorem list10 {α : Type} {l : List α} (h : l.length = 10) : ∃ a b c d e f g i j k, l = [a, b, c, d, e, f, g, i, j, k] := by
  match l, h with
  | [a, b, c, d, e, f, g, i, j, k], _ => exact ⟨a, b, c, d, e, f, g, i, j, k, rfl⟩

section
variable {H : Type} {enc : TypeId × Value → H} {w : World} {held : Bool} {fuel : Nat} {cs : List Value} {x : DataW H × List MemPlace}

theorem rows_of_trod {α : Type} (z : α) (cells : α → Array Value) (sz : Nat) (ok : World → α → Prop) {T E : TypeId} (hU : Try.prog.underlying T = some (.slice E)) (hc : Try.prog.cellsOf E = sz) (h0 : 0 < sz) (hsz : ∀ a, (cells a).size = sz)
    (hone : ∀ (fuel : Nat) (cs : List Value) (x : DataW H × List MemPlace), DataW.trod enc Try.prog w 0 (fun _ => true) held fuel E cs = some x → ∃ a, cs = (cells a).toList ∧ ok w a)
    {c : Value} (h : DataW.trod enc Try.prog w 0 (fun _ => true) held fuel T [c] = some x) : ∃ ao n cp xs, c = .slice ao n cp ∧ RowsAt cells sz ok w ao n xs ∧ n ≤ cp := by
  rcases Go.Deep.open_slice hU h with ⟨hcs, _⟩ | ⟨a, len, cap, m, n, D, Pl, hcs, _, hl, hm, hmm, _, hi⟩
  · simp at hcs
    exact ⟨none, 0, 0, [], hcs, ⟨rfl, by omega, fun i x hx => by simp at hx⟩, Nat.le_refl _⟩
  · simp at hcs
    have mx : maxLen = 9223372036854775807 := by kernel_rfl
    have hmc : m = cap := by simpa using hmm
    have hc : ∀ i, i < len → ∃ x : α, ok w x ∧ ∀ j, j < sz → w.cell? (a.add (i * sz + j)) = (cells x)[j]? := fun i hil => by
      obtain ⟨cs', hc', ht⟩ := hi i (by omega)
      obtain ⟨x, rfl, ok⟩ := hone _ _ _ ht
      obtain ⟨_, _, hat⟩ := World.cells?_some hc'
      rw [hc] at hat
      exact ⟨x, ok, fun j hj => by rw [← Go.Deep.add_add, hat j hj]; simp⟩
    obtain ⟨f, hf2⟩ := choose_below z hc
    refine ⟨some a, len, cap, (List.range len).map f, hcs, ⟨by simp, by rw [mx] at hm; omega, fun i x hx => ?_⟩, hl⟩
    have hil : i < len := by
      have := (List.getElem?_eq_some_iff.1 hx).1
      simpa using this
    have hxe : x = f i := by
      rw [List.getElem?_map, List.getElem?_range hil] at hx
      simpa using hx.symm
    subst hxe
    have hz : ∀ i, i < len → (cells (f i))[0]? = some ((cells (f i))[0]'(by rw [hsz]; exact h0)) := fun i _ => by
      rw [Array.getElem?_eq_getElem]
    have h00 := (hf2 0 (by omega)).2 0 h0
    rw [hz 0 (by omega)] at h00
    obtain ⟨b, off, spot⟩ := a
    have hsp : spot = none := by simpa [Addr.add] using World.cell?_spot h00
    subst hsp
    have e : ∀ j, j < sz → w.cell? ⟨b, off + i * sz + j, none⟩ = (cells (f i))[j]? := fun j hj => by
      rw [← (hf2 i hil).2 j hj, add_plain, Nat.add_assoc]
    have e0 := e 0 h0
    rw [hz i hil] at e0
    exact ⟨b, off, rfl, World.block_lt_of_cell? w _ e0, e, (hf2 i hil).1⟩

theorem vecs_of_trod {c : Value} (h : DataW.trod enc Try.prog w 0 (fun _ => true) held fuel 53 [c] = some x) : ∃ ao n cp vs, c = .slice ao n cp ∧ VecsAt w ao n vs := by
  obtain ⟨ao, n, cp, xs, e, hr, _⟩ := rows_of_trod V4.zero V4.cells 4 (fun _ _ => True) Try.underlying53 Try.c23 (by decide) (fun _ => rfl) (fun fuel cs x h => by
    obtain ⟨v, e⟩ := vec_of_trod h
    exact ⟨v, by simpa using e, trivial⟩) h
  refine ⟨ao, n, cp, xs, e, hr.len, hr.max, fun i hi => ?_⟩
  obtain ⟨x, hx⟩ := hr.get hi
  obtain ⟨b, off, e, hlt, hc, _⟩ := hr.cell i x hx
  have hv : vv xs i = x := by simp [vv, List.getD, hx]
  rw [hv]
  exact ⟨b, off, e, hlt, hc 0 (by omega), hc 1 (by omega), hc 2 (by omega), hc 3 (by omega)⟩
theorem bools_of_trod {c : Value} (h : DataW.trod enc Try.prog w 0 (fun _ => true) held fuel 73 [c] = some x) : ∃ ao n cp bs, c = .slice ao n cp ∧ BoolsAt w ao n bs ∧ n ≤ cp ∧ (∀ b off, ao = some ⟨b, off, none⟩ → 0 < n → b < w.heap.size) := by
  obtain ⟨ao, n, cp, xs, e, hr, hle⟩ := rows_of_trod false (fun b => #[Value.bool b]) 1 (fun _ _ => True) Try.underlying73 Try.c4 (by decide) (fun _ => rfl) (fun fuel cs x h => by
    obtain ⟨v, e, _⟩ := DataW.trod_bool Try.underlying4 h
    exact ⟨v, by simpa using e, trivial⟩) h
  have hB : BoolsAt w ao n xs := by
    refine ⟨hr.len, hr.max, fun i hi => ?_⟩
    obtain ⟨x, hx⟩ := hr.get hi
    obtain ⟨b, off, e, hlt, hc, _⟩ := hr.cell i x hx
    have hv : bi xs i = x := by simp [bi, List.getD, hx]
    rw [hv]
    have := hc 0 (by omega)
    rw [Nat.mul_one] at this
    exact ⟨b, off, e, hlt, this⟩
  exact ⟨ao, n, cp, xs, e, hB, hle, fun b off e h0 => hB.lt h0 b off e⟩

theorem hold_of_trod (h : DataW.trod enc Try.prog w 0 (fun _ => true) held fuel 94 cs = some x) : ∃ a : Hold, cs = a.cells.toList ∧ a.ok w := by
  obtain ⟨xs, n, _, rfl, hl, hlen, hf⟩ := DataW.trod_struct Try.underlying94 h
  rw [Try.c94] at hl
  obtain ⟨c0, c1, c2, c3, c4, c5, rfl⟩ := list6 hl
  match xs, hlen with
  | [y0, y1, y2], _ =>
    have h0 := hf 0 _ rfl; have h1 := hf 1 _ rfl; have h2 := hf 2 _ rfl
    simp [Try.c48] at h0
    simp [Try.c23] at h1
    simp [Try.c3] at h2
    obtain ⟨ao, m, cp, zs, rfl, hz, hmc⟩ := ints_of_trod h0
    obtain ⟨v, ev⟩ := vec_of_trod h1
    obtain ⟨n2, e2, _⟩ := DataW.trod_int Try.underlying3 h2
    simp at ev e2
    obtain ⟨rfl, rfl, rfl, rfl⟩ := ev
    subst e2
    exact ⟨⟨ao, m, cp, zs, v, n2⟩, rfl, hz, hmc⟩
theorem ask_of_trod (h : DataW.trod enc Try.prog w 0 (fun _ => true) held fuel 84 cs = some x) : ∃ a : Ask, cs = a.cells.toList ∧ a.ok w := by
  obtain ⟨xs, n, _, rfl, hl, hlen, hf⟩ := DataW.trod_struct Try.underlying84 h
  rw [Try.c84] at hl
  obtain ⟨c0, c1, c2, c3, c4, c5, c6, c7, c8, c9, rfl⟩ := list10 hl
  match xs, hlen with
  | [y0, y1, y2, y3, y4, y5, y6], _ =>
    have h0 := hf 0 _ rfl; have h1 := hf 1 _ rfl; have h2 := hf 2 _ rfl; have h3 := hf 3 _ rfl; have h4 := hf 4 _ rfl; have h5 := hf 5 _ rfl; have h6 := hf 6 _ rfl
    simp [Try.c3, Try.c23, Try.c48] at h0 h1 h2 h3 h4 h5 h6
    obtain ⟨n0, e0, _⟩ := DataW.trod_int Try.underlying3 h0
    obtain ⟨po, pm, pc, pz, rfl, hz, hmc⟩ := ints_of_trod h1
    obtain ⟨n2, e2, _⟩ := DataW.trod_int Try.underlying3 h2
    obtain ⟨v, ev⟩ := vec_of_trod h3
    obtain ⟨n4, e4, _⟩ := DataW.trod_int Try.underlying3 h4
    obtain ⟨n5, e5, _⟩ := DataW.trod_int Try.underlying3 h5
    obtain ⟨go, gm, gc, gz, rfl, hz2, hmc2⟩ := ints_of_trod h6
    simp at e0 e2 ev e4 e5
    obtain ⟨rfl, rfl, rfl, rfl⟩ := ev
    subst e0; subst e2; subst e4; subst e5
    exact ⟨⟨n0, po, pm, pc, pz, n2, v, n4, n5, go, gm, gc, gz⟩, rfl, hz, hmc, hz2, hmc2⟩
theorem slot_of_trod (h : DataW.trod enc Try.prog w 0 (fun _ => true) held fuel 88 cs = some x) : ∃ a : Slot, cs = a.cells.toList ∧ a.ok w := by
  obtain ⟨xs, n, _, rfl, hl, hlen, hf⟩ := DataW.trod_struct Try.underlying88 h
  rw [Try.c88] at hl
  obtain ⟨c0, c1, c2, rfl⟩ := list3 hl
  match xs, hlen with
  | [y0, y1, y2], _ =>
    have h0 := hf 0 _ rfl; have h1 := hf 1 _ rfl; have h2 := hf 2 _ rfl
    simp [Try.c3, Try.c48] at h0 h1 h2
    obtain ⟨n0, e0, _⟩ := DataW.trod_int Try.underlying3 h0
    obtain ⟨n1, e1, _⟩ := DataW.trod_int Try.underlying3 h1
    obtain ⟨ao, m, cp, zs, rfl, hz, hmc⟩ := ints_of_trod h2
    simp at e0 e1
    subst e0; subst e1
    exact ⟨⟨n0, n1, ao, m, cp, zs⟩, rfl, hz, hmc⟩
end

structure Scene where
  vo : Option Addr
  vn : Nat
  vc : Nat
  vs : List V4
  uo : Option Addr
  un : Nat
  uc : Nat
  bs : List Bool
  now : Int
  ho : Option Addr
  hn : Nat
  hc : Nat
  hs : List Hold
  ao : Option Addr
  an : Nat
  ac : Nat
  asks : List Ask
def Scene.zero : Scene := ⟨none, 0, 0, [], none, 0, 0, [], 0, none, 0, 0, [], none, 0, 0, []⟩
abbrev Scene.cells (x : Scene) : Array Value := #[.slice x.vo x.vn x.vc, .slice x.uo x.un x.uc, .int .i64 x.now, .slice x.ho x.hn x.hc, .slice x.ao x.an x.ac]
abbrev Scene.val (x : Scene) : Value := .agg #[.slice x.vo x.vn x.vc, .slice x.uo x.un x.uc, .int .i64 x.now, .slice x.ho x.hn x.hc, .slice x.ao x.an x.ac]
def Scene.obj (x : Scene) : Obj := .cells x.cells 77 (0, 0)
structure Scene.ok (w : World) (x : Scene) : Prop where
  vs : VecsAt w x.vo x.vn x.vs
  up : BoolsAt w x.uo x.un x.bs
  holds : HoldsAt w x.ho x.hn x.hs
  asks : AsksAt w x.ao x.an x.asks
theorem Scene.ok.below {w w' : World} {x : Scene} (h : x.ok w) (hb : Below w.heap.size w w') : x.ok w' :=
  ⟨h.vs.below hb (Nat.le_refl _), h.up.below hb (Nat.le_refl _), h.holds.below hb (fun _ ho => ho.below hb), h.asks.below hb (fun _ ho => ho.below' hb)⟩
theorem scene_cells {w : World} {b : Nat} {x : Scene} (h : w.heap[b]? = some x.obj) : w.cell? ⟨b, 0, none⟩ = some (.slice x.vo x.vn x.vc) ∧ w.cell? ⟨b, 1, none⟩ = some (.slice x.uo x.un x.uc) ∧ w.cell? ⟨b, 2, none⟩ = some (.int .i64 x.now) ∧
    w.cell? ⟨b, 3, none⟩ = some (.slice x.ho x.hn x.hc) ∧ w.cell? ⟨b, 4, none⟩ = some (.slice x.ao x.an x.ac) :=
  ⟨blk_cell h 0, blk_cell h 1, blk_cell h 2, blk_cell h 3, blk_cell h 4⟩

section
variable {H : Type} {enc : TypeId × Value → H} {w : World} {held : Bool} {fuel : Nat} {cs : List Value} {x : DataW H × List MemPlace}
theorem scene_of_trod (h : DataW.trod enc Try.prog w 0 (fun _ => true) held fuel 77 cs = some x) : ∃ a : Scene, cs = a.cells.toList ∧ a.ok w ∧ Num a.now := by
  obtain ⟨xs, n, _, rfl, hl, hlen, hf⟩ := DataW.trod_struct Try.underlying77 h
  rw [Try.c77] at hl
  obtain ⟨c0, c1, c2, c3, c4, rfl⟩ := list5 hl
  match xs, hlen with
  | [y0, y1, y2, y3, y4], _ =>
    have h0 := hf 0 _ rfl; have h1 := hf 1 _ rfl; have h2 := hf 2 _ rfl; have h3 := hf 3 _ rfl; have h4 := hf 4 _ rfl
    simp [Try.c3, Try.c53, Try.c73, Try.c74, Try.c75] at h0 h1 h2 h3 h4
    obtain ⟨vo, vn, vc, vs, rfl, hv⟩ := vecs_of_trod h0
    obtain ⟨uo, un, uc, bs, rfl, hb, _⟩ := bools_of_trod h1
    obtain ⟨n2, e2, _, w2⟩ := DataW.trod_int Try.underlying3 h2
    obtain ⟨ho, hn, hc, hs, rfl, hh, _⟩ := rows_of_trod ⟨none, 0, 0, [], V4.zero, 0⟩ Hold.cells 6 Hold.ok Try.underlying74 Try.c94 (by decide) (fun _ => rfl) (fun _ _ _ h => hold_of_trod h) h3
    obtain ⟨ao, an, ac, asks, rfl, ha, _⟩ := rows_of_trod Ask.zero Ask.cells 10 (fun w a => Ask.ok w a) Try.underlying75 Try.c84 (by decide) (fun _ => rfl) (fun _ _ _ h => ask_of_trod h) h4
    simp at e2
    subst e2
    exact ⟨⟨vo, vn, vc, vs, uo, un, uc, bs, n2, ho, hn, hc, hs, ao, an, ac, asks⟩, rfl, ⟨hv, hb, hh, ha⟩, bounds_i64 w2⟩
end

section
variable {H : Type} {enc : TypeId × Value → H} {w : World} {held : Bool} {b0 : Nat} {r : Reach} {v : Value} {d : DataW H} {p : List MemPlace}
set_option maxRecDepth 100000 in
theorem open_scene (hv : Value.okWide Try.prog w r b0 77 v) (h : DataW.Trod enc Try.prog w 0 (fun _ => true) held 77 v d p) : ∃ a : Scene, v = a.val ∧ a.ok w ∧ Num a.now := by
  obtain ⟨cs, rfl, _⟩ := okWide_struct Try.underlying77 hv
  obtain ⟨fuel, hf⟩ := h
  obtain ⟨a, e, h1, h2⟩ := scene_of_trod hf
  refine ⟨a, ?_, h1, h2⟩
  cases cs
  simp [Value.cells] at e
  simp [e]
set_option maxRecDepth 100000 in
theorem open_ask (hv : Value.okWide Try.prog w r b0 84 v) (h : DataW.Trod enc Try.prog w 0 (fun _ => true) held 84 v d p) : ∃ a : Ask, v = a.val ∧ a.ok w := by
  obtain ⟨cs, rfl, _⟩ := okWide_struct Try.underlying84 hv
  obtain ⟨fuel, hf⟩ := h
  obtain ⟨a, e, h1⟩ := ask_of_trod hf
  refine ⟨a, ?_, h1⟩
  cases cs
  simp [Value.cells] at e
  simp [e]
set_option maxRecDepth 100000 in
theorem open_slots (hv : Value.okWide Try.prog w r b0 79 v) (h : DataW.Trod enc Try.prog w 0 (fun _ => true) held 79 v d p) : ∃ ao n cp sl, v = .slice ao n cp ∧ SlotsAt w ao n sl := by
  obtain ⟨fuel, hf⟩ := h
  have hvc : v.cells.toList = [v] := by
    simp only [Value.okWide, Try.underlying79, Cell.okWide] at hv
    cases v <;> simp_all [Value.cells, Cell.ok]
  rw [hvc] at hf
  obtain ⟨ao, n, cp, xs, e, hr, _⟩ := rows_of_trod ⟨0, 0, none, 0, 0, []⟩ Slot.cells 3 (fun w s => Slot.ok w s) Try.underlying79 Try.c88 (by decide) (fun _ => rfl) (fun _ _ _ h => slot_of_trod h) hf
  exact ⟨ao, n, cp, xs, e, hr⟩
end
end Go.Proofs.Ytpjajiambbobhaa

/- corveelaw12.few: a scene that is small. -/
namespace Go.Proofs.Ytpjajiambbobhaa
open Go.RowKit

structure Few (x : Scene) : Prop where
  vn : x.vn ≤ 20
  un : x.un ≤ 20
  hn : x.hn ≤ 8
  an : x.an ≤ 10
  holds : ∀ h, h ∈ x.hs → h.gn ≤ 20
  asks : ∀ a, a ∈ x.asks → a.pn ≤ 30 ∧ a.gn ≤ 20
def FewPost (x : Scene) (w : World) (e : Ending) (w' : World) : Prop := ∃ b, e = .returned (.bool b) ∧ (b = true → Few x) ∧ Below w.heap.size w w'
/-- what stands throughout -/
structure SW (w : World) (x : Scene) (wr : World) : Prop where
  box : wr.heap[w.heap.size]? = some x.obj
  ok : x.ok wr
  low : Below w.heap.size w wr
theorem SW.below {w : World} {x : Scene} {wr w' : World} (h : SW w x wr) (hb : Below wr.heap.size wr w') : SW w x w' := ⟨blk_below hb h.box (blk_lt h.box), h.ok.below hb, h.low.trans (hb.mono h.low.size)⟩
theorem SW.new {w : World} {x : Scene} (h : x.ok w) : SW w x (w.alloc x.obj) := ⟨blk_new _ _, h.below ((Below.refl _ _).alloc (Nat.le_refl _) _), (Below.refl _ _).alloc (Nat.le_refl _) _⟩

set_option maxRecDepth 100000 in
set_option maxHeartbeats 3200000 in
theorem few_any (x : Scene) (w : World) (hok : x.ok w) : Calls Try.prog 48 #[x.val] w (FewPost x w) := by
  have hS := SW.new hok
  have h1 := hok.holds.len; have h2 := hok.asks.len
  have m1 := hok.holds.max; have m2 := hok.asks.max; have m3 := hok.vs.max; have m4 := hok.up.max
  replace hok := Lib.hid hok
  by_cases q1 : 20 < x.vn
  · have d1 : decide (20 < (x.vn : Int)) = true := by simp; omega
    replace hS := Lib.hid hS; replace q1 := Lib.hid q1; replace h1 := Lib.hid h1; replace h2 := Lib.hid h2
    go_enter Try.func48, Try.ntmps48
    go_wp2
    go_ret
    exact ⟨false, rfl, fun h => (by cases h), hS.out.low⟩
  have d1 : decide (20 < (x.vn : Int)) = false := by simp; omega
  by_cases q2 : 20 < x.un
  · have d2 : decide (20 < (x.un : Int)) = true := by simp; omega
    replace hS := Lib.hid hS; replace q1 := Lib.hid q1; replace q2 := Lib.hid q2; replace h1 := Lib.hid h1; replace h2 := Lib.hid h2
    go_enter Try.func48, Try.ntmps48
    go_wp2
    go_ret
    exact ⟨false, rfl, fun h => (by cases h), hS.out.low⟩
  have d2 : decide (20 < (x.un : Int)) = false := by simp; omega
  by_cases q3 : 8 < x.hn
  · have d3 : decide (8 < (x.hn : Int)) = true := by simp; omega
    replace hS := Lib.hid hS; replace q1 := Lib.hid q1; replace q2 := Lib.hid q2; replace q3 := Lib.hid q3; replace h1 := Lib.hid h1; replace h2 := Lib.hid h2
    go_enter Try.func48, Try.ntmps48
    go_wp2
    go_ret
    exact ⟨false, rfl, fun h => (by cases h), hS.out.low⟩
  have d3 : decide (8 < (x.hn : Int)) = false := by simp; omega
  by_cases q4 : 10 < x.an
  · have d4 : decide (10 < (x.an : Int)) = true := by simp; omega
    replace hS := Lib.hid hS; replace q1 := Lib.hid q1; replace q2 := Lib.hid q2; replace q3 := Lib.hid q3; replace q4 := Lib.hid q4; replace h1 := Lib.hid h1; replace h2 := Lib.hid h2
    go_enter Try.func48, Try.ntmps48
    go_wp2
    go_ret
    exact ⟨false, rfl, fun h => (by cases h), hS.out.low⟩
  have d4 : decide (10 < (x.an : Int)) = false := by simp; omega
  have hfin : (∀ h, h ∈ x.hs → h.gn ≤ 20) → (∀ a, a ∈ x.asks → a.pn ≤ 30 ∧ a.gn ≤ 20) → Few x := fun a b => ⟨by omega, by omega, by omega, by omega, a, b⟩
  obtain ⟨c0, c1, c2, c3, c4⟩ := scene_cells hS.box
  have lx := blk_lt hS.box
  have hh := hS.ok.holds; have ha := hS.ok.asks
  have hlow := hS.low
  obtain ⟨W, hW⟩ : ∃ W, W = w.alloc x.obj := ⟨_, rfl⟩
  rw [← hW] at c0 c1 c2 c3 c4 lx hh ha hlow
  replace hS := Lib.hid hS; replace q1 := Lib.hid q1; replace q2 := Lib.hid q2; replace q3 := Lib.hid q3; replace q4 := Lib.hid q4; replace h1 := Lib.hid h1; replace h2 := Lib.hid h2; replace hfin := Lib.hid hfin; replace hh := Lib.hid hh; replace ha := Lib.hid ha; replace hlow := Lib.hid hlow
  replace hW := Lib.hid hW
  go_enter Try.func48, Try.ntmps48
  go_wp2
  have hWe : w.alloc (.cells x.cells 77 (0, 0)) = W := hW.out.symm
  go_loopw [3] (fun i wr => ∃ k : Nat, i = .int .i64 k ∧ k ≤ x.hn ∧ Hid (∀ j h, j < k → x.hs[j]? = some h → h.gn ≤ 20) ∧ wr = W) (fun i _ => x.hn - (intOf i).toNat)
  case atStart => exact ⟨0, rfl, Nat.zero_le _, (fun j h hj => by omega), hWe⟩
  case round =>
    obtain ⟨k, rfl, hk, hall, rfl⟩ := hrel
    replace hWe := Lib.hid hWe
    by_cases hc : k < x.hn
    · have hc1 : (k : Int) < x.hn := by omega
      have hk0 : (0 : Int) ≤ (k : Int) := by omega
      obtain ⟨h, hx⟩ := hh.out.get hc
      obtain ⟨b, off, hbo, hb, a0, _⟩ := hh.out.cell k h hx
      rw [hbo] at c3
      have b0 := a0 0 (by omega)
      simp at b0
      clear a0
      replace hbo := Lib.hid hbo
      by_cases q : 20 < h.gn
      · have d : decide (20 < (h.gn : Int)) = true := by simp; omega
        replace q := Lib.hid q; replace hx := Lib.hid hx
        go_wp2
        go_ret
        exact ⟨false, rfl, fun h => (by cases h), hlow.out⟩
      · have d : decide (20 < (h.gn : Int)) = false := by simp; omega
        have hn : ∀ j g, j < k + 1 → x.hs[j]? = some g → g.gn ≤ 20 := fun j g hj hg => by
          by_cases e : j = k
          · subst e; rw [hx] at hg; cases hg; omega
          · exact hall.out j g (by omega) hg
        replace q := Lib.hid q; replace hx := Lib.hid hx; replace hn := Lib.hid hn
        go_wp2
        go_roundw
        case rel => exact ⟨k + 1, by go_num, by omega, hn.out, trivial⟩
        case measure => simp [intOf]; omega
    · have hc1 : ¬ (k : Int) < x.hn := by omega
      have hA : ∀ h, h ∈ x.hs → h.gn ≤ 20 := fun h hm => by
        obtain ⟨j, hj⟩ := List.mem_iff_getElem?.1 hm
        have := (List.getElem?_eq_some_iff.1 hj).1
        exact hall.out j h (by have := h1.out; omega) hj
      replace hA := Lib.hid hA
      go_wp2
      go_loopw [4] (fun i wt => ∃ k : Nat, i = .int .i64 k ∧ k ≤ x.an ∧ Hid (∀ j a, j < k → x.asks[j]? = some a → a.pn ≤ 30 ∧ a.gn ≤ 20) ∧ wt = wr) (fun i _ => x.an - (intOf i).toNat)
      case atStart => exact ⟨0, rfl, Nat.zero_le _, (fun j h hj => by omega), rfl⟩
      case round =>
        obtain ⟨k, rfl, hk, hall, rfl⟩ := hrel
        by_cases hc : k < x.an
        · have hc1 : (k : Int) < x.an := by omega
          have hk0 : (0 : Int) ≤ (k : Int) := by omega
          obtain ⟨h, hx⟩ := ha.out.get hc
          obtain ⟨b, off, hbo, hb, a0, _⟩ := ha.out.cell k h hx
          rw [hbo] at c4
          have b0 := a0 1 (by omega); have b1 := a0 9 (by omega)
          simp at b0 b1
          clear a0
          replace hbo := Lib.hid hbo
          by_cases q : 30 < h.pn
          · have d : decide (30 < (h.pn : Int)) = true := by simp; omega
            replace q := Lib.hid q; replace hx := Lib.hid hx
            go_wp2
            go_ret
            exact ⟨false, rfl, fun h => (by cases h), hlow.out⟩
          have d : decide (30 < (h.pn : Int)) = false := by simp; omega
          by_cases q' : 20 < h.gn
          · have d : decide (20 < (h.gn : Int)) = true := by simp; omega
            replace q := Lib.hid q; replace q' := Lib.hid q'; replace hx := Lib.hid hx
            go_wp2
            go_ret
            exact ⟨false, rfl, fun h => (by cases h), hlow.out⟩
          · have d : decide (20 < (h.gn : Int)) = false := by simp; omega
            have hn : ∀ j g, j < k + 1 → x.asks[j]? = some g → g.pn ≤ 30 ∧ g.gn ≤ 20 := fun j g hj hg => by
              by_cases e : j = k
              · subst e; rw [hx] at hg; cases hg; omega
              · exact hall.out j g (by omega) hg
            replace q := Lib.hid q; replace q' := Lib.hid q'; replace hx := Lib.hid hx; replace hn := Lib.hid hn
            go_wp2
            go_roundw
            case rel => exact ⟨k + 1, by go_num, by omega, hn.out, trivial⟩
            case measure => simp [intOf]; omega
        · have hc1 : ¬ (k : Int) < x.an := by omega
          have hB : ∀ a, a ∈ x.asks → a.pn ≤ 30 ∧ a.gn ≤ 20 := fun h hm => by
            obtain ⟨j, hj⟩ := List.mem_iff_getElem?.1 hm
            have := (List.getElem?_eq_some_iff.1 hj).1
            exact hall.out j h (by have := h2.out; omega) hj
          replace hB := Lib.hid hB
          go_wp2
          go_ret
          exact ⟨true, rfl, fun _ => hfin.out hA.out hB.out, hlow.out⟩
end Go.Proofs.Ytpjajiambbobhaa

/- corveelaw12.awake: the document's first example of a plan answers as the document says. -/
namespace Go.Proofs.Ytpjajiambbobhaa
open Go.RowKit

abbrev vecObj : Obj := .cells #[.int .i64 2, .int .i64 0, .int .i64 0, .int .i64 0, .int .i64 2, .int .i64 0, .int .i64 0, .int .i64 0] 23 (0, 0)
abbrev boolObj : Obj := .cells #[.bool true, .bool true] 4 (0, 0)
abbrev intObj : Obj := .cells #[.int .i64 0, .int .i64 1] 3 (0, 0)
abbrev awHold (n : Nat) : Hold := ⟨some ⟨n, 0, none⟩, 1, 1, [0], two4, 4⟩
abbrev awAsk (n : Nat) (i nodes ticks : Int) : Ask := ⟨i, some ⟨n, 0, none⟩, 2, 2, [0, 1], nodes, two4, ticks, -1, none, 0, 0, []⟩
abbrev askObj (n : Nat) : Obj := .cells #[.int .i64 1, .slice (some ⟨n + 1 + 1 + 1 + 1, 0, none⟩) 2 2, .int .i64 2, .int .i64 2, .int .i64 0, .int .i64 0, .int .i64 0, .int .i64 3, .int .i64 (-1), .slice none 0 0, .int .i64 2, .slice (some ⟨n + 1 + 1 + 1 + 1 + 1, 0, none⟩) 2 2, .int .i64 1, .int .i64 2, .int .i64 0, .int .i64 0, .int .i64 0, .int .i64 4, .int .i64 (-1), .slice none 0 0, .int .i64 3, .slice (some ⟨n + 1 + 1 + 1 + 1 + 1 + 1, 0, none⟩) 2 2, .int .i64 1, .int .i64 2, .int .i64 0, .int .i64 0, .int .i64 0, .int .i64 5, .int .i64 (-1), .slice none 0 0] 84 (0, 0)
theorem blk_if (w : World) (o : Obj) (b : Nat) : (w.alloc o).heap[b]? = if b = w.heap.size then some o else w.heap[b]? := by
  by_cases h : b = w.heap.size
  · rw [if_pos h, h]; exact blk_new w o
  · rw [if_neg h]
    by_cases h2 : b < w.heap.size
    · exact Below.heap_alloc w o b h2
    · rw [Array.getElem?_eq_none (by simp; omega), Array.getElem?_eq_none (by omega)]
def awW (w : World) : World := (((((((w.alloc vecObj).alloc boolObj).alloc (.cells #[.int .i64 0] 3 (0, 0))).alloc (.cells (awHold (w.heap.size + 1 + 1)).cells 94 (0, 0))).alloc intObj).alloc intObj).alloc intObj).alloc (askObj w.heap.size)
theorem awW_size (w : World) : (awW w).heap.size = w.heap.size + 8 := by simp [awW]
theorem awW_below (w : World) : Below w.heap.size w (awW w) := by
  have h := Below.refl w.heap.size w
  exact (((((((h.alloc (Nat.le_refl _) _).alloc (by simp) _).alloc (by simp; omega) _).alloc (by simp; omega) _).alloc (by simp; omega) _).alloc (by simp; omega) _).alloc (by simp; omega) _).alloc (by simp; omega) _
theorem awW_blk (w : World) : (awW w).heap[w.heap.size]? = some vecObj ∧ (awW w).heap[w.heap.size + 1]? = some boolObj ∧ (awW w).heap[w.heap.size + 1 + 1]? = some (.cells #[.int .i64 0] 3 (0, 0)) ∧ (awW w).heap[w.heap.size + 1 + 1 + 1]? = some (.cells (awHold (w.heap.size + 1 + 1)).cells 94 (0, 0)) ∧
    (awW w).heap[w.heap.size + 1 + 1 + 1 + 1]? = some intObj ∧ (awW w).heap[w.heap.size + 1 + 1 + 1 + 1 + 1]? = some intObj ∧ (awW w).heap[w.heap.size + 1 + 1 + 1 + 1 + 1 + 1]? = some intObj ∧ (awW w).heap[w.heap.size + 1 + 1 + 1 + 1 + 1 + 1 + 1]? = some (askObj w.heap.size) := by
  unfold awW
  refine ⟨?_, ?_, ?_, ?_, ?_, ?_, ?_, ?_⟩ <;> simp only [blk_if, World.size_alloc]
  all_goals (repeat (first | (rw [if_pos trivial]; done) | (rw [if_pos rfl]; done) | rw [if_neg (by omega)] | (rw [if_pos (by omega)]; done)))
theorem three_idx {i : Nat} (h : i < 3) : i = 0 ∨ i = 1 ∨ i = 2 := by omega
theorem ints_two {w : World} {b : Nat} (h : w.heap[b]? = some intObj) : IntsAt w (some ⟨b, 0, none⟩) 2 [0, 1] := by
  refine ⟨rfl, by omega, fun i hi => ⟨b, 0, rfl, blk_lt h, ?_⟩⟩
  rcases two_idx hi with rfl | rfl
  · exact blk_cell h 0
  · exact blk_cell h 1
theorem ints_none (w : World) : IntsAt w none 0 [] := ⟨rfl, by omega, fun i hi => by omega⟩
theorem awk_ask (b : Nat) (i n t : Int) : AskIs (awAsk b i n t) n t := ⟨rfl, rfl, rfl, rfl, rfl⟩
theorem awk_vecs (w : World) : VecsAt (awW w) (some ⟨w.heap.size, 0, none⟩) 2 [two4, two4] := by
  have h := (awW_blk w).1
  refine ⟨rfl, by omega, fun i hi => ⟨w.heap.size, 0, rfl, blk_lt h, ?_⟩⟩
  rcases two_idx hi with rfl | rfl
  · exact ⟨blk_cell h 0, blk_cell h 1, blk_cell h 2, blk_cell h 3⟩
  · exact ⟨blk_cell h 4, blk_cell h 5, blk_cell h 6, blk_cell h 7⟩
theorem awk_bools (w : World) : BoolsAt (awW w) (some ⟨w.heap.size + 1, 0, none⟩) 2 [true, true] := by
  have h := (awW_blk w).2.1
  refine ⟨rfl, by omega, fun i hi => ⟨w.heap.size + 1, 0, rfl, blk_lt h, ?_⟩⟩
  rcases two_idx hi with rfl | rfl
  · exact blk_cell h 0
  · exact blk_cell h 1
theorem awk_holds (w : World) : HoldsAt (awW w) (some ⟨w.heap.size + 1 + 1 + 1, 0, none⟩) 1 [awHold (w.heap.size + 1 + 1)] := by
  obtain ⟨_, _, h2, h3, _⟩ := awW_blk w
  refine ⟨rfl, by omega, fun i x hx => ?_⟩
  have hi : i = 0 := by have := (List.getElem?_eq_some_iff.1 hx).1; simpa using this
  subst hi
  have hx' : awHold (w.heap.size + 1 + 1) = x := by simpa using hx
  subst hx'
  refine ⟨w.heap.size + 1 + 1 + 1, 0, rfl, blk_lt h3, fun j hj => ?_, ⟨⟨rfl, by show (1 : Nat) ≤ _; omega, fun i hi => ⟨w.heap.size + 1 + 1, 0, rfl, blk_lt h2, ?_⟩⟩, Nat.le_refl _⟩⟩
  · rw [blk_cell h3]; simp
  · have : i = 0 := by have hi' : i < 1 := hi; omega
    subst this
    exact blk_cell h2 0
theorem awk_asks (w : World) : AsksAt (awW w) (some ⟨w.heap.size + 1 + 1 + 1 + 1 + 1 + 1 + 1, 0, none⟩) 3 [awAsk (w.heap.size + 1 + 1 + 1 + 1) 1 2 3, awAsk (w.heap.size + 1 + 1 + 1 + 1 + 1) 2 1 4, awAsk (w.heap.size + 1 + 1 + 1 + 1 + 1 + 1) 3 1 5] := by
  obtain ⟨_, _, _, _, h4, h5, h6, h7⟩ := awW_blk w
  refine ⟨rfl, by omega, fun i x hx => ⟨w.heap.size + 1 + 1 + 1 + 1 + 1 + 1 + 1, 0, rfl, blk_lt h7, ?_⟩⟩
  have hi : i < 3 := by have := (List.getElem?_eq_some_iff.1 hx).1; simpa using this
  rcases three_idx hi with rfl | rfl | rfl
  · have e : awAsk (w.heap.size + 1 + 1 + 1 + 1) 1 2 3 = x := by simpa using hx
    subst e
    refine ⟨fun j hj => ?_, ints_two h4, Nat.le_refl _, ints_none _, Nat.le_refl _⟩
    rw [blk_cell h7]
    clear h4 h5 h6 h7
    have : j = 0 ∨ j = 1 ∨ j = 2 ∨ j = 3 ∨ j = 4 ∨ j = 5 ∨ j = 6 ∨ j = 7 ∨ j = 8 ∨ j = 9 := by omega
    rcases this with rfl | rfl | rfl | rfl | rfl | rfl | rfl | rfl | rfl | rfl <;> rfl
  · have e : awAsk (w.heap.size + 1 + 1 + 1 + 1 + 1) 2 1 4 = x := by simpa using hx
    subst e
    refine ⟨fun j hj => ?_, ints_two h5, Nat.le_refl _, ints_none _, Nat.le_refl _⟩
    rw [blk_cell h7]
    clear h4 h5 h6 h7
    have : j = 0 ∨ j = 1 ∨ j = 2 ∨ j = 3 ∨ j = 4 ∨ j = 5 ∨ j = 6 ∨ j = 7 ∨ j = 8 ∨ j = 9 := by omega
    rcases this with rfl | rfl | rfl | rfl | rfl | rfl | rfl | rfl | rfl | rfl <;> rfl
  · have e : awAsk (w.heap.size + 1 + 1 + 1 + 1 + 1 + 1) 3 1 5 = x := by simpa using hx
    subst e
    refine ⟨fun j hj => ?_, ints_two h6, Nat.le_refl _, ints_none _, Nat.le_refl _⟩
    rw [blk_cell h7]
    clear h4 h5 h6 h7
    have : j = 0 ∨ j = 1 ∨ j = 2 ∨ j = 3 ∨ j = 4 ∨ j = 5 ∨ j = 6 ∨ j = 7 ∨ j = 8 ∨ j = 9 := by omega
    rcases this with rfl | rfl | rfl | rfl | rfl | rfl | rfl | rfl | rfl | rfl <;> rfl
theorem awk_calls (w : World) : Calls Try.prog 49 #[.slice (some ⟨w.heap.size, 0, none⟩) 2 2, .slice (some ⟨w.heap.size + 1, 0, none⟩) 2 2, .int .i64 0, .slice (some ⟨w.heap.size + 1 + 1 + 1, 0, none⟩) 1 1, .slice (some ⟨w.heap.size + 1 + 1 + 1 + 1 + 1 + 1 + 1, 0, none⟩) 3 3] (awW w) fun e w' =>
    ∃ g off sc c1 o2 c2 o3 c3, e = .returned (.tuple #[.slice (some ⟨g, off, none⟩) 3 sc, .int .i64 0]) ∧ Below w.heap.size w w' ∧ g < w'.heap.size ∧ w'.cell? ⟨g, off + 1, none⟩ = some (.int .i64 4) ∧ w'.cell? ⟨g, off + 3 + 1, none⟩ = some (.int .i64 0) ∧ w'.cell? ⟨g, off + 3 + 2, none⟩ = some (.slice o2 1 c2) ∧
      w'.cell? ⟨g, off + 6 + 1, none⟩ = some (.int .i64 7) ∧ w'.cell? ⟨g, off + 6 + 2, none⟩ = some (.slice o3 1 c3) ∧ c1 = 0 ∧ IntsAt w' o2 1 [1] ∧ IntsAt w' o3 1 [0] := by
  refine (pass_any _ _ _ _ 2 2 2 2 1 1 3 3 [two4, two4] [true, true] 0 _ _ (awW w) (awk_vecs w) (awk_bools w) (awk_holds w) (awk_asks w) (by omega)).mono ?_
  rintro e w2 ⟨hb, ⟨r, hr, _, hl⟩ | ⟨so, sc, slots, rfl, hp, hs, _, _, _⟩⟩
  · exact absurd (awk_lay hl rfl rfl rfl) hr
  · obtain ⟨s1, s2, s3, rfl, e1, e2, z2, e3, z3⟩ := awk_pass hp rfl rfl rfl (awk_ask _ _ _ _) (awk_ask _ _ _ _) (awk_ask _ _ _ _)
    obtain ⟨g, off, rfl, hg, a1, _⟩ := hs.cell 0 s1 rfl
    obtain ⟨g', off', eq, _, a2, o2⟩ := hs.cell 1 s2 rfl
    cases eq
    obtain ⟨g', off', eq, _, a3, o3⟩ := hs.cell 2 s3 rfl
    cases eq
    have hb' : Below w.heap.size w w2 := (awW_below w).trans (hb.mono (awW_below w).size)
    have n2 : s2.gn = 1 := by have := o2.gang.len; rw [z2] at this; simpa using this.symm
    have n3 : s3.gn = 1 := by have := o3.gang.len; rw [z3] at this; simpa using this.symm
    have b1 := a1 1 (by omega); have b2 := a2 1 (by omega); have b2' := a2 2 (by omega); have b3 := a3 1 (by omega); have b3' := a3 2 (by omega)
    simp [e1, e2, e3, n2, n3] at b1 b2 b2' b3 b3'
    have g2 := o2.gang; have g3 := o3.gang
    rw [n2, z2] at g2; rw [n3, z3] at g3
    exact ⟨g, off, sc, 0, s2.go, s2.gc, s3.go, s3.gc, rfl, hb', hg, b1, b2, b2', b3, b3', rfl, g2, g3⟩

set_option maxRecDepth 100000 in
set_option maxHeartbeats 3200000 in
theorem pawake_any (w : World) : Calls Try.prog 47 #[] w fun e w' => e = .returned (.bool true) ∧ Below w.heap.size w w' := by
  have hc := awk_calls w
  unfold awW at hc
  replace hc := Lib.hid hc
  go_enter Try.func47, Try.ntmps47
  go_wp2_with fail
  refine hc.out.mono ?_
  rintro e w2 ⟨g, off, sc, c1, o2, c2, o3, c3, rfl, hb, hg, b1, b2, b2', b3, b3', _, g2, g3⟩
  have hs2 := samei_any o2 (some ⟨w2.heap.size, 0, none⟩) 1 1 c2 1 [1] [1] (w2.alloc (.cells #[.int .i64 1] 3 (0, 0))) (g2.below ((Below.refl _ _).alloc (Nat.le_refl _) _) (Nat.le_refl _)) (one_int w2 1)
  have hB := hb.alloc hb.size (.cells #[.int .i64 1] 3 (0, 0))
  replace hb := Lib.hid hb; replace g2 := Lib.hid g2; replace g3 := Lib.hid g3; replace hs2 := Lib.hid hs2; replace hB := Lib.hid hB
  go_wp2_with fail
  refine hs2.out.mono ?_
  rintro e w3 ⟨b, rfl, hbt, hb3⟩
  have e3 : b = true := hbt.2 rfl
  subst e3
  have hl3 : Below w2.heap.size w2 w3 := ((Below.refl _ _).alloc (Nat.le_refl _) _).trans (hb3.mono (by simp))
  have hB3 : Below w.heap.size w w3 := hB.out.trans (hb3.mono hB.out.size)
  have d3 := (below_cell hl3 hg).trans b3
  have d3' := (below_cell hl3 hg).trans b3'
  have s3 := hB3.size
  have hs3 := samei_any o3 (some ⟨w3.heap.size, 0, none⟩) 1 1 c3 1 [0] [0] (w3.alloc (.cells #[.int .i64 0] 3 (0, 0))) (g3.out.below (hl3.alloc hl3.size _) (Nat.le_refl _)) (one_int w3 0)
  have hB3' := hB3.alloc s3 (.cells #[.int .i64 0] 3 (0, 0))
  clear b1 b2 b2' b3 b3' hbt
  replace hb3 := Lib.hid hb3; replace hl3 := Lib.hid hl3; replace hB3 := Lib.hid hB3; replace hs3 := Lib.hid hs3; replace hB3' := Lib.hid hB3'
  go_wp2_with fail
  refine hs3.out.mono ?_
  rintro e w4 ⟨b, rfl, hbt, hb4⟩
  have e4 : b = true := hbt.2 rfl
  subst e4
  have hB4 := hB3'.out.trans (hb4.mono hB3'.out.size)
  clear hbt
  replace hb4 := Lib.hid hb4; replace hB4 := Lib.hid hB4
  go_wp2
  go_ret
  exact ⟨rfl, hB4.out⟩
end Go.Proofs.Ytpjajiambbobhaa

/- The document's answer for plans: an ask that may be, its places, its gang. -/
namespace Go.Proofs.Ytpjajiambbobhaa
open Go.RowKit

theorem in_dec (ao : Option Addr) (n c : Nat) (zs : List Int) (x : Int) (w : World) (hz : IntsAt w ao n zs) : Calls Try.prog 38 #[.slice ao n c, .int .i64 x] w fun e w' => e = .returned (.bool (decide (x ∈ zs))) ∧ w' = w :=
  (in_any ao n c zs x w hz).mono fun e w' ⟨b, he, hb, hw⟩ => ⟨by rw [he]; congr 2; rw [Bool.eq_iff_iff, decide_eq_true_iff]; exact hb, hw⟩
set_option maxRecDepth 100000 in
theorem rcan_any (a : Ask) (w : World) : Calls Try.prog 54 #[a.val] w fun e w' => e = .returned (.bool a.can) ∧ Below w.heap.size w w' := by
  have hB : Below w.heap.size w (w.alloc a.obj) := (Below.refl _ _).alloc (Nat.le_refl _) _
  have hx0 : (w.alloc a.obj).heap[w.heap.size]? = some a.obj := blk_new _ _
  replace hB := Lib.hid hB; replace hx0 := Lib.hid hx0
  go_enter Try.func54, Try.ntmps54
  go_wp2_with fail
  refine (right3_any a.v _).mono ?_
  rintro e2 w2 ⟨rfl, hb2⟩
  have hx2 := blk_below hb2 hx0.out (blk_lt hx0.out)
  have hB2 := hB.out.trans (hb2.mono hB.out.size)
  obtain ⟨y0, y1, y2, y3, y4, y5, y6, y7, y8, y9⟩ := ask_cells hx2
  have lx := blk_lt hx2
  replace hB2 := Lib.hid hB2; replace hb2 := Lib.hid hb2; replace hx2 := Lib.hid hx2
  cases hr : a.v.right
  · have e : a.can = false := by simp [Ask.can, hr]
    replace e := Lib.hid e
    go_wp2
    go_ret
    exact ⟨by rw [e.out]; rfl, hB2.out⟩
  by_cases q1 : 0 < a.nodes
  rotate_left
  · have d1 : decide (0 < a.nodes) = false := by simpa using q1
    have e : a.can = false := by simp [Ask.can, d1]
    replace q1 := Lib.hid q1; replace e := Lib.hid e
    go_wp2
    go_ret
    exact ⟨by rw [e.out]; rfl, hB2.out⟩
  have d1 : decide (0 < a.nodes) = true := by simpa using q1
  by_cases q2 : 0 < a.ticks
  rotate_left
  · have d2 : decide (0 < a.ticks) = false := by simpa using q2
    have e : a.can = false := by simp [Ask.can, d2]
    replace q1 := Lib.hid q1; replace q2 := Lib.hid q2; replace e := Lib.hid e
    go_wp2
    go_ret
    exact ⟨by rw [e.out]; rfl, hB2.out⟩
  have d2 : decide (0 < a.ticks) = true := by simpa using q2
  have e : a.can = true := by simp [Ask.can, d1, d2, hr]
  replace q1 := Lib.hid q1; replace q2 := Lib.hid q2; replace e := Lib.hid e
  go_wp2
  go_ret
  exact ⟨by rw [e.out]; rfl, hB2.out⟩

set_option maxRecDepth 100000 in
set_option maxHeartbeats 1600000 in
theorem rplaces_any (un uc : Nat) (uo : Option Addr) (bs : List Bool) (a : Ask) (w : World) (ht : BoolsAt w uo un bs) (hz : IntsAt w a.po a.pn a.pzs) (hu : un ≤ 1000000) :
    Calls Try.prog 55 #[a.val, .slice uo un uc] w (PlcPost bs a.pzs w) := by
  obtain ⟨i3, hi3, hz3, hz31, hz32⟩ := info_parts info3
  have hB0 : Below w.heap.size w (w.alloc a.obj) := (Below.refl _ _).alloc (Nat.le_refl _) _
  have hx0 : (w.alloc a.obj).heap[w.heap.size]? = some a.obj := blk_new _ _
  have hlen := ht.len
  replace ht := Lib.hid ht; replace hz := Lib.hid hz; replace hB0 := Lib.hid hB0; replace hx0 := Lib.hid hx0; replace hlen := Lib.hid hlen
  go_enter Try.func55, Try.ntmps55
  go_wp2
  go_loopw [5, 6] (fun ov i wr => ∃ (k L : Nat) (xs : List Nat), i = .int .i64 k ∧ k ≤ un ∧ L ≤ k ∧ Hid (Below w.heap.size w wr) ∧ Hid (wr.heap[w.heap.size]? = some a.obj) ∧ Hid (OwnI wr (w.heap.size + 1) ov L xs) ∧ Hid (xs = plck bs a.pzs k)) (fun _ i _ => un - (intOf i).toNat)
  case atStart => exact ⟨0, 0, [], rfl, by omega, Nat.le_refl _, hB0.out, hx0.out, OwnI.nil _ _, rfl⟩
  case round =>
    obtain ⟨k, L, xs, rfl, hk, hLk, hB, hx, hown, hxs⟩ := hrel
    by_cases hc : k < un
    · have hc1 : (k : Int) < un := by omega
      have hk0 : (0 : Int) ≤ (k : Int) := by omega
      obtain ⟨b, off, rfl, hb, a0⟩ := ht.out.cell k hc
      have b0 := (below_cell hB.out hb).trans a0
      clear a0
      have sz := hB.out.size
      cases hbk : bi bs k
      · rw [hbk] at b0
        have hxs2 : xs = plck bs a.pzs (k + 1) := by rw [plck_succ, if_neg (by simp [plcOk, hbk]), hxs.out]
        replace hxs2 := Lib.hid hxs2; replace hbk := Lib.hid hbk
        go_wp2
        go_roundw
        case rel => exact ⟨k + 1, L, xs, by go_num, by omega, by omega, hB.out, hx.out, hown.out, hxs2.out⟩
        case measure => simp [intOf]; omega
      · rw [hbk] at b0
        have x1 := (ask_cells hx.out).2.1
        have lx := blk_lt hx.out
        have hco := in_any a.po a.pn a.pc a.pzs (k : Int) wr (hz.out.below hB.out (Nat.le_refl _))
        replace hco := Lib.hid hco
        go_wp2_with fail
        refine hco.out.mono ?_
        rintro e w2 ⟨r, rfl, hr, rfl⟩
        have hp : plcOk bs a.pzs k = r := by
          simp only [plcOk, hbk, Bool.true_and]
          rw [Bool.eq_iff_iff, decide_eq_true_iff]
          exact hr.symm
        clear hr
        replace hbk := Lib.hid hbk
        cases r
        · have hxs2 : xs = plck bs a.pzs (k + 1) := by rw [plck_succ, if_neg (by rw [hp]; simp), hxs.out]
          replace hxs2 := Lib.hid hxs2; replace hp := Lib.hid hp
          go_wp2
          go_roundw
          case rel => exact ⟨k + 1, L, xs, by go_num, by omega, by omega, hB.out, hx.out, hown.out, hxs2.out⟩
          case measure => simp [intOf]; omega
        · have hxs2 : xs ++ [k] = plck bs a.pzs (k + 1) := by rw [plck_succ, if_pos hp, hxs.out]
          have hsz1 : w.heap.size + 1 ≤ w2.heap.size := lx
          have hownA := hown.out.2.alloc (.cells #[.int .i64 (k : Int)] 3 (0, 0))
          have hnews := one_new w2 (k : Int)
          have hone1 : ∀ u ∈ ([.int .i64 (k : Int)] : List Value), u.oneCell' = true := by simp [Value.oneCell']
          have h63 : L + 1 ≤ maxLen := by
            have : maxLen = 9223372036854775807 := by kernel_rfl
            omega
          have hby : (L + 1) * 8 ≤ 140737488355328 := by omega
          have hbas := size_alloc hsz1 (.cells #[.int .i64 (k : Int)] 3 (0, 0))
          have hlt := hown.out.2.lt
          have hxl := hown.out.1
          replace hxs2 := Lib.hid hxs2; replace hp := Lib.hid hp; replace hownA := Lib.hid hownA; replace hnews := Lib.hid hnews; replace hone1 := Lib.hid hone1; replace h63 := Lib.hid h63; replace hby := Lib.hid hby; replace hbas := Lib.hid hbas; replace hlt := Lib.hid hlt; replace hxl := Lib.hid hxl
          go_wp2_with (at_builtin; refine wpList_append_own _ rfl _ _ 48 rfl (w.heap.size + 1) 3 i3 _ 1 8 Try.underlying48 hi3 hz3 hz31 hz32 rfl Nat.one_pos _ L _ rfl hownA.out ⟨w2.heap.size, 0, none⟩ 1 1 [.int .i64 (k : Int)] rfl rfl hnews.out hone1.out h63.out hby.out hbas.out ?_; intro v1 w9 hown9 hgrow _; obtain ⟨g, cap1, rfl⟩ := Joins.ownsRow_form hown9 (Nat.succ_pos _); replace hown9 := Lib.hid hown9; replace hgrow := Lib.hid hgrow)
          have hO9 : OwnI w9 (w.heap.size + 1) (.slice (some ⟨g, 0, none⟩) (L + 1) cap1) (L + 1) (xs ++ [k]) := ⟨by rw [List.length_append, ← hxl.out]; rfl, by simpa [ints] using hown9.out⟩
          have hG : Below (w.heap.size + 1) w2 w9 := ((Below.refl _ _).alloc hsz1 _).grown hgrow.out hbas.out (fun k hk => (hlt.out k hk).1)
          have hB9 := hB.out.trans (hG.mono (Nat.le_succ _))
          have hx9 := blk_below hG hx.out (Nat.lt_succ_self _)
          replace hO9 := Lib.hid hO9; replace hB9 := Lib.hid hB9; replace hx9 := Lib.hid hx9; replace hG := Lib.hid hG
          go_roundw
          case rel => exact ⟨k + 1, L + 1, xs ++ [k], by go_num, by omega, by omega, hB9.out, hx9.out, hO9.out, hxs2.out⟩
          case measure => simp [intOf]; omega
    · have hc1 : ¬ (k : Int) < un := by omega
      have hkn : k = bs.length := by rw [hlen.out]; omega
      have hx2 : xs = plc bs a.pzs := by unfold plc; rw [hxs.out, hkn]
      have hL0 : L ≤ 9223372036854775807 := by omega
      replace hkn := Lib.hid hkn; replace hx2 := Lib.hid hx2
      have hown' := hown.out
      rcases Joins.ownsRow_forms hown'.2 with ⟨rfl, h0⟩ | ⟨g, cap1, rfl⟩
      · have hx0 : xs = [] := by have := hown'.1; rw [h0] at this; exact List.length_eq_zero_iff.1 this.symm
        replace hown' := Lib.hid hown'; replace h0 := Lib.hid h0; replace hx0 := Lib.hid hx0
        go_wp2
        go_ret
        refine ⟨none, 0, 0, rfl, ?_, Nat.le_refl _, (fun b off h => by simp at h), hB.out⟩
        rw [← hx2.out, hx0.out]; exact ints_nil _
      · obtain ⟨o1, o2, o3⟩ := hown'.at hL0
        replace hown' := Lib.hid hown'; replace o1 := Lib.hid o1; replace o2 := Lib.hid o2; replace o3 := Lib.hid o3
        go_wp2
        go_ret
        refine ⟨some ⟨g, 0, none⟩, L, cap1, rfl, ?_, o2.out, (fun b off e => by cases e; exact Nat.le_of_succ_le o3.out), hB.out⟩
        rw [← hx2.out]; exact o1.out

set_option maxRecDepth 100000 in
set_option maxHeartbeats 1600000 in
theorem rof_any (un uc : Nat) (uo : Option Addr) (bs : List Bool) (a : Ask) (ao : Option Addr) (m c : Nat) (zs : List Int) (w : World) (ht : BoolsAt w uo un bs) (hp : IntsAt w a.po a.pn a.pzs) (hu : un ≤ 1000000) (hz : IntsAt w ao m zs) :
    Calls Try.prog 85 #[a.val, .slice uo un uc, .slice ao m c] w (OfPost bs a zs w) := by
  obtain ⟨W, hW⟩ : ∃ W, W = w.alloc a.obj := ⟨_, rfl⟩
  have hB0 : Below w.heap.size w W := by rw [hW]; exact (Below.refl _ _).alloc (Nat.le_refl _) _
  have hx0 : W.heap[w.heap.size]? = some a.obj := by rw [hW]; exact blk_new _ _
  have hpl := rplaces_any un uc uo bs a W (ht.below hB0 (Nat.le_refl _)) (hp.below hB0 (Nat.le_refl _)) hu
  rw [hW] at hpl
  have hlen := hz.len
  have hmax := hz.max
  replace ht := Lib.hid ht; replace hp := Lib.hid hp; replace hz := Lib.hid hz; replace hB0 := Lib.hid hB0; replace hx0 := Lib.hid hx0; replace hpl := Lib.hid hpl; replace hlen := Lib.hid hlen; replace hW := Lib.hid hW
  go_enter Try.func85, Try.ntmps85
  go_wp2_with fail
  refine hpl.out.mono ?_
  rintro e w2 ⟨so, sn, sc, rfl, hs2, _, _, hb2⟩
  rw [← hW.out] at hb2
  have hB2 : Below w.heap.size w w2 := hB0.out.trans (hb2.mono hB0.out.size)
  have hx2 := blk_below hb2 hx0.out (blk_lt hx0.out)
  replace hs2 := Lib.hid hs2; replace hb2 := Lib.hid hb2; replace hB2 := Lib.hid hB2; replace hx2 := Lib.hid hx2
  go_wp2
  go_loopw [8] (fun i wr => ∃ k : Nat, i = .int .i64 k ∧ k ≤ m ∧ Hid (∀ i, i < k → zi zs i ∈ ints (plc bs a.pzs) ∧ (∀ j, i = j + 1 → zi zs j < zi zs i)) ∧ Hid (Below w2.heap.size w2 wr)) (fun i _ => m - (intOf i).toNat)
  case atStart => exact ⟨0, rfl, Nat.zero_le _, (fun i h => absurd h (Nat.not_lt_zero i)), Below.refl _ _⟩
  case round =>
    obtain ⟨k, rfl, hk, hall, hbr⟩ := hrel
    have hBr := hB2.out.trans (hbr.out.mono hB2.out.size)
    replace hBr := Lib.hid hBr
    by_cases hc : k < m
    · have hc1 : (k : Int) < m := by omega
      have hk0 : (0 : Int) ≤ (k : Int) := by omega
      obtain ⟨b, off, rfl, hb, a0⟩ := hz.out.cell k hc
      have b0 := (below_cell hBr.out hb).trans a0
      clear a0
      obtain ⟨x, hx⟩ : ∃ x, x = zi zs k := ⟨_, rfl⟩
      rw [← hx] at b0
      have bad : Hid (¬ (x ∈ ints (plc bs a.pzs) ∧ ∀ j, k = j + 1 → zi zs j < x) → ¬ OfAsk bs a zs) := fun h hg => by
        have hkz : k < zs.length := by rw [hlen.out]; exact hc
        refine h ⟨by rw [hx]; exact hg.inn k hkz, fun j e => ?_⟩
        subst e
        rw [hx]; exact hg.rise j hkz
      have hco : ∀ n, Calls Try.prog 38 #[.slice so sn sc, .int .i64 x] (wr.drewN n) fun e w' => e = .returned (.bool (decide (x ∈ ints (plc bs a.pzs)))) ∧ w' = wr.drewN n := fun n => in_dec so sn sc (ints (plc bs a.pzs)) x _ (by
        have h := hs2.out.below hbr.out (Nat.le_refl _)
        exact ⟨h.len, h.max, h.cell⟩)
      have hnq : ∀ n, Below w2.heap.size w2 (wr.drewN n) := fun n => hbr.out.trans (below_drewN _ _ n)
      cases hm : decide (x ∈ ints (plc bs a.pzs))
      · rw [hm] at hco
        have hbad := bad.out (fun h => by have := h.1; simp at hm; exact hm this)
        replace hm := Lib.hid hm; replace hbad := Lib.hid hbad; replace hx := Lib.hid hx; replace hco := Lib.hid hco; replace hnq := Lib.hid hnq
        go_wp2_with fail
        go_quiet ((go_at_call 38; exact Calls.quiet_of_same (hco.out _)))
        go_wp2
        go_ret
        exact ⟨false, rfl, ⟨fun h => (by cases h), fun h => absurd h hbad.out⟩, hB2.out.trans ((hnq.out _).mono hB2.out.size)⟩
      · rw [hm] at hco
        have hin : x ∈ ints (plc bs a.pzs) := by simpa using hm
        replace hin := Lib.hid hin; replace hm := Lib.hid hm
        by_cases k0 : k = 0
        · have dk : decide (0 < (k : Int)) = false := by simp; omega
          have dk2 : decide (0 < k) = false := by simp; omega
          have hnext : ∀ i, i < k + 1 → zi zs i ∈ ints (plc bs a.pzs) ∧ (∀ j, i = j + 1 → zi zs j < zi zs i) := fun i hi => by
            have : i = k := by omega
            subst this
            exact ⟨by rw [← hx]; exact hin.out, fun j e => by omega⟩
          replace k0 := Lib.hid k0; replace hnext := Lib.hid hnext; replace hx := Lib.hid hx; replace hco := Lib.hid hco; replace hnq := Lib.hid hnq
          go_wp2_with fail
          go_quiet ((go_at_call 38; exact Calls.quiet_of_same (hco.out _)))
          go_wp2
          go_roundw
          case rel => exact ⟨k + 1, by go_num, by omega, hnext.out, hnq.out _⟩
          case measure => simp [intOf]; omega
        · obtain ⟨j, hj⟩ : ∃ j, k = j + 1 := ⟨k - 1, by omega⟩
          have dk : decide (0 < (k : Int)) = true := by simp; omega
          have dk2 : decide (0 < k) = true := by simp; omega
          have ej : IntKind.i64.wrap ((k : Int) - 1) = (j : Int) := by rw [IntWalk.i64_in _ (by omega)]; omega
          have hj1 : (j : Int) < m := by omega
          have hj0 : (0 : Int) ≤ (j : Int) := by omega
          obtain ⟨b', off', e', hb', a1⟩ := hz.out.cell j (by omega)
          cases e'
          have b1 := (below_cell hBr.out hb').trans a1
          clear a1
          obtain ⟨y, hy⟩ : ∃ y, y = zi zs j := ⟨_, rfl⟩
          rw [← hy] at b1
          by_cases q3 : x ≤ y
          · have d3 : decide (x ≤ y) = true := by simpa using q3
            have hbad := bad.out (fun h => by have := h.2 j hj; rw [← hy] at this; omega)
            replace q3 := Lib.hid q3; replace hbad := Lib.hid hbad; replace hy := Lib.hid hy; replace hj := Lib.hid hj; replace k0 := Lib.hid k0; replace hx := Lib.hid hx; replace hco := Lib.hid hco; replace hnq := Lib.hid hnq
            go_wp2_with fail
            go_quiet ((go_at_call 38; exact Calls.quiet_of_same (hco.out _)))
            go_wp2
            go_ret
            exact ⟨false, rfl, ⟨fun h => (by cases h), fun h => absurd h hbad.out⟩, hB2.out.trans ((hnq.out _).mono hB2.out.size)⟩
          · have d3 : decide (x ≤ y) = false := by simpa using q3
            have hnext : ∀ i, i < k + 1 → zi zs i ∈ ints (plc bs a.pzs) ∧ (∀ j, i = j + 1 → zi zs j < zi zs i) := fun i hi => by
              by_cases e : i = k
              · subst e
                refine ⟨by rw [← hx]; exact hin.out, fun j2 e => ?_⟩
                have : j2 = j := by omega
                subst this
                rw [← hx, ← hy]; omega
              · exact hall.out i (by omega)
            replace q3 := Lib.hid q3; replace hnext := Lib.hid hnext; replace hy := Lib.hid hy; replace hj := Lib.hid hj; replace k0 := Lib.hid k0; replace hx := Lib.hid hx; replace hco := Lib.hid hco; replace hnq := Lib.hid hnq
            go_wp2_with fail
            go_quiet ((go_at_call 38; exact Calls.quiet_of_same (hco.out _)))
            go_wp2
            go_roundw
            case rel => exact ⟨k + 1, by go_num, by omega, hnext.out, hnq.out _⟩
            case measure => simp [intOf]; omega
    · have hc1 : ¬ (k : Int) < m := by omega
      have hkm : k = m := by omega
      have hxr := blk_below hbr.out hx2.out (blk_lt hx2.out)
      have x2 := (ask_cells hxr).2.2.1
      have lx := blk_lt hxr
      replace hxr := Lib.hid hxr
      by_cases q : (m : Int) = a.nodes
      · have d : ((m : Int) == a.nodes) = true := by simpa using q
        have hyes : OfAsk bs a zs := ⟨fun i hi => (hall.out i (by rw [hlen.out] at hi; omega)).1, fun i hi => (hall.out (i + 1) (by rw [hlen.out] at hi; omega)).2 i rfl, by rw [hlen.out]; exact q⟩
        replace q := Lib.hid q; replace hyes := Lib.hid hyes
        go_wp2
        go_ret
        exact ⟨true, rfl, ⟨fun _ => hyes.out, fun _ => rfl⟩, hBr.out⟩
      · have d : ((m : Int) == a.nodes) = false := by simpa using q
        have hno : ¬ OfAsk bs a zs := fun h => q (by rw [← hlen.out]; exact h.len)
        replace q := Lib.hid q; replace hno := Lib.hid hno
        go_wp2
        go_ret
        exact ⟨false, rfl, ⟨fun h => (by cases h), fun h => absurd h hno.out⟩, hBr.out⟩

theorem rlong_any (fr ticks : Int) (w : World) (h0 : 0 ≤ fr) (h1 : fr ≤ 1099511627776) (h2 : -9223372036854775808 ≤ ticks) : Calls Try.prog 86 #[.int .i64 fr, .int .i64 ticks] w fun e w' => e = .returned (.int .i64 (endT fr ticks)) ∧ w' = w := by
  have e1 : IntKind.i64.wrap (1099511627776 - fr) = 1099511627776 - fr := IntWalk.i64_in _ (by omega)
  unfold endT
  by_cases q : 1099511627776 - fr < ticks
  · have d : decide (1099511627776 - fr < ticks) = true := by simpa using q
    rw [if_pos q]
    replace q := Lib.hid q
    go_enter Try.func86, Try.ntmps86
    go_wp2
    go_ret
    exact ⟨rfl, rfl⟩
  · have d : decide (1099511627776 - fr < ticks) = false := by simpa using q
    have e2 : IntKind.i64.wrap (fr + ticks) = fr + ticks := IntWalk.i64_in _ (by omega)
    rw [if_neg q]
    replace q := Lib.hid q
    go_enter Try.func86, Try.ntmps86
    go_wp2
    go_ret
    exact ⟨rfl, rfl⟩
end Go.Proofs.Ytpjajiambbobhaa
