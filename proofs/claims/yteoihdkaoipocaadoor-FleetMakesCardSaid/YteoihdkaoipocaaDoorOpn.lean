/- What an argument that is a row of nodes reads as, opened. Plain theorems: no condition. -/
import Derived.Test.YteoihdkaoipocaaDoorRwb
import Derived.Test.YteoihdkaoipocaaDoorNod
import Derived.Deep.Slices
import Derived.Lib.SmallJoins
namespace Go.Proofs.YteoihdkaoipocaaDoor
open Go.ChangeShapes Go.WideShapes Go.ChangeAt Go.RowKit

theorem cel3 : Tryd.prog.cellsOf 3 = 1 := by kernel_rfl
theorem cel9 : Tryd.prog.cellsOf 9 = 1 := by kernel_rfl
theorem cel25 : Tryd.prog.cellsOf 25 = 4 := by kernel_rfl
theorem cel36 : Tryd.prog.cellsOf 36 = 1 := by kernel_rfl
theorem cel48 : Tryd.prog.cellsOf 48 = 6 := by kernel_rfl
theorem list4o {α : Type} {l : List α} (h : l.length = 4) : ∃ a b c d, l = [a, b, c, d] := by
  match l, h with
  | [a, b, c, d], _ => exact ⟨a, b, c, d, rfl⟩
theorem list6o {α : Type} {l : List α} (h : l.length = 6) : ∃ a b c d e f, l = [a, b, c, d, e, f] := by
  match l, h with
  | [a, b, c, d, e, f], _ => exact ⟨a, b, c, d, e, f, rfl⟩
theorem choose_belowo {α : Type} {n : Nat} {p : Nat → α → Prop} (z : α) (h : ∀ i, i < n → ∃ x, p i x) : ∃ f : Nat → α, ∀ i, i < n → p i (f i) :=
  ⟨fun i => if hi : i < n then (h i hi).choose else z, fun i hi => by simp only [hi, dif_pos]; exact (h i hi).choose_spec⟩
theorem add_plain_o (b off k : Nat) : (⟨b, off, none⟩ : Addr).add k = ⟨b, off + k, none⟩ := by unfold Addr.add; cases k <;> rfl

structure RowsO {α : Type} (cells : α → Array Value) (sz : Nat) (ok : World → α → Prop) (w : World) (so : Option Addr) (n : Nat) (xs : List α) : Prop where
  len : xs.length = n
  max : n ≤ 9223372036854775807
  cell : ∀ i x, xs[i]? = some x → ∃ b off, so = some ⟨b, off, none⟩ ∧ b < w.heap.size ∧ (∀ j, j < sz → w.cell? ⟨b, off + i * sz + j, none⟩ = (cells x)[j]?) ∧ ok w x
/-- a node of an argument -/
structure NdA (w : World) (x : Nde) : Prop where
  ok : x.ok w
  name : x.name.size ≤ maxLen
  parts : ∀ p, p ∈ x.parts → p.size ≤ maxLen
abbrev NdsAt (w : World) (so : Option Addr) (n : Nat) (xs : List Nde) : Prop := RowsO Nde.cells 6 NdA w so n xs
theorem NdsAt.low {w w' : World} {so : Option Addr} {n : Nat} {xs : List Nde} (h : NdsAt w so n xs) (hb : Below w.heap.size w w') : NdsAt w' so n xs :=
  ⟨h.len, h.max, fun i x hx => by
    obtain ⟨b, off, e, hlt, hc, ho⟩ := h.cell i x hx
    exact ⟨b, off, e, Nat.lt_of_lt_of_le hlt hb.size, fun j hj => (below_cell hb hlt).trans (hc j hj), ho.ok.low hb, ho.name, ho.parts⟩⟩

section
variable {H : Type} {enc : TypeId × Value → H} {w : World} {held : Bool} {fuel : Nat} {cs : List Value} {x : DataW H × List MemPlace}
theorem rowsO_of_trod {α : Type} (z : α) (cells : α → Array Value) (sz : Nat) (ok : World → α → Prop) {T E : TypeId} (hU : Tryd.prog.underlying T = some (.slice E)) (hc : Tryd.prog.cellsOf E = sz) (h0 : 0 < sz) (hsz : ∀ a, (cells a).size = sz)
    (hone : ∀ (fuel : Nat) (cs : List Value) (x : DataW H × List MemPlace), DataW.trod enc Tryd.prog w 0 (fun _ => true) held fuel E cs = some x → ∃ a, cs = (cells a).toList ∧ ok w a)
    {c : Value} (h : DataW.trod enc Tryd.prog w 0 (fun _ => true) held fuel T [c] = some x) : ∃ ao n cp xs, c = .slice ao n cp ∧ RowsO cells sz ok w ao n xs ∧ n ≤ cp := by
  rcases Go.Deep.open_slice hU h with ⟨hcs, _⟩ | ⟨a, len, cap, m, n, D, Pl, hcs, _, hl, hm, hmm, _, hi⟩
  · simp at hcs
    exact ⟨none, 0, 0, [], hcs, ⟨rfl, by omega, fun i x hx => by simp at hx⟩, Nat.le_refl _⟩
  · simp at hcs
    have mx : maxLen = 9223372036854775807 := by kernel_rfl
    have hmc : m = cap := by simpa using hmm
    have hc : ∀ i, i < len → ∃ x : α, ok w x ∧ ∀ j, j < sz → w.cell? (a.add (i * sz + j)) = (cells x)[j]? := fun i hil => by
      obtain ⟨cs', hc', ht⟩ := hi i (by omega)
      obtain ⟨x, rfl, ok⟩ := hone _ _ _ ht
      obtain ⟨_, _, hat⟩ := World.cells?_some hc'
      rw [hc] at hat
      exact ⟨x, ok, fun j hj => by rw [← Go.Deep.add_add, hat j hj]; simp⟩
    obtain ⟨f, hf2⟩ := choose_belowo z hc
    refine ⟨some a, len, cap, (List.range len).map f, hcs, ⟨by simp, by rw [mx] at hm; omega, fun i x hx => ?_⟩, hl⟩
    have hil : i < len := by
      have := (List.getElem?_eq_some_iff.1 hx).1
      simpa using this
    have hxe : x = f i := by
      rw [List.getElem?_map, List.getElem?_range hil] at hx
      simpa using hx.symm
    subst hxe
    have hz : ∀ i, i < len → (cells (f i))[0]? = some ((cells (f i))[0]'(by rw [hsz]; exact h0)) := fun i _ => by
      rw [Array.getElem?_eq_getElem]
    have h00 := (hf2 0 (by omega)).2 0 h0
    rw [hz 0 (by omega)] at h00
    obtain ⟨b, off, spot⟩ := a
    have hsp : spot = none := by simpa [Addr.add] using World.cell?_spot h00
    subst hsp
    have e : ∀ j, j < sz → w.cell? ⟨b, off + i * sz + j, none⟩ = (cells (f i))[j]? := fun j hj => by
      rw [← (hf2 i hil).2 j hj, add_plain_o, Nat.add_assoc]
    have e0 := e 0 h0
    rw [hz i hil] at e0
    exact ⟨b, off, rfl, World.block_lt_of_cell? w _ e0, e, (hf2 i hil).1⟩
theorem strsO_of_trod {c : Value} (h : DataW.trod enc Tryd.prog w 0 (fun _ => true) held fuel 36 [c] = some x) : ∃ ao n cp xs, c = .slice ao n cp ∧ StrsAt w ao n xs ∧ (∀ p, p ∈ xs → p.size ≤ maxLen) ∧ n ≤ cp := by
  obtain ⟨ao, n, cp, xs, e, hr, hn⟩ := rowsO_of_trod ByteArray.empty (fun s => #[.string s]) 1 (fun _ s => s.size ≤ maxLen) Tryd.underlying36 cel9 (by decide) (fun _ => rfl) (fun fuel cs x h => by
    obtain ⟨s, e, _, hs⟩ := DataW.trod_string Tryd.underlying9 h
    exact ⟨s, e, hs⟩) h
  refine ⟨ao, n, cp, xs, e, ⟨hr.len, hr.max, fun i x hx => ?_⟩, fun p hp => ?_, hn⟩
  · obtain ⟨b, off, e, hlt, hc, _⟩ := hr.cell i x hx
    have := hc 0 (by omega)
    rw [Nat.mul_one, Nat.add_zero] at this
    exact ⟨b, off, e, hlt, this⟩
  · obtain ⟨i, hi⟩ := List.mem_iff_getElem?.1 hp
    obtain ⟨_, _, _, _, _, h⟩ := hr.cell i p hi
    exact h
theorem vecO_of_trod (h : DataW.trod enc Tryd.prog w 0 (fun _ => true) held fuel 25 cs = some x) : ∃ v : V4, cs = v.cells.toList := by
  obtain ⟨xs, m, _, _, hl, hn, hi⟩ := DataW.trod_array Tryd.underlying25 h
  rw [cel25] at hl
  obtain ⟨c0, c1, c2, c3, rfl⟩ := list4o hl
  have one : ∀ i, i < 4 → ∀ c : Value, (([c0, c1, c2, c3].drop (i * Tryd.prog.cellsOf 3)).take (Tryd.prog.cellsOf 3)) = [c] → ∃ n, c = .int .i64 n := fun i h4 c hc => by
    have h1 := hi i h4
    rw [hc, List.getElem?_eq_getElem (by omega)] at h1
    obtain ⟨n, e, _⟩ := DataW.trod_int Tryd.underlying3 h1
    exact ⟨n, by simpa using e⟩
  obtain ⟨n0, rfl⟩ := one 0 (by omega) c0 (by simp [cel3])
  obtain ⟨n1, rfl⟩ := one 1 (by omega) c1 (by simp [cel3])
  obtain ⟨n2, rfl⟩ := one 2 (by omega) c2 (by simp [cel3])
  obtain ⟨n3, rfl⟩ := one 3 (by omega) c3 (by simp [cel3])
  exact ⟨⟨n0, n1, n2, n3⟩, rfl⟩
theorem node_of_trod (h : DataW.trod enc Tryd.prog w 0 (fun _ => true) held fuel 48 cs = some x) : ∃ a : Nde, cs = a.cells.toList ∧ NdA w a := by
  obtain ⟨xs, n, _, rfl, hl, hlen, hf⟩ := DataW.trod_struct Tryd.underlying48 h
  rw [cel48] at hl
  obtain ⟨c0, c1, c2, c3, c4, c5, rfl⟩ := list6o hl
  match xs, hlen with
  | [y0, y1, y2], _ =>
    have h0 := hf 0 _ rfl; have h1 := hf 1 _ rfl; have h2 := hf 2 _ rfl
    simp [cel9, cel25, cel36] at h0 h1 h2
    obtain ⟨s, e0, _, hs⟩ := DataW.trod_string Tryd.underlying9 h0
    obtain ⟨v, ev⟩ := vecO_of_trod h1
    obtain ⟨po, pn, pc, ps, rfl, hp, hps, hpc⟩ := strsO_of_trod h2
    simp at e0 ev
    obtain ⟨rfl, rfl, rfl, rfl⟩ := ev
    subst e0
    exact ⟨⟨s, v, po, pn, pc, ps⟩, rfl, ⟨hp, hpc⟩, hs, hps⟩
end
section
variable {H : Type} {enc : TypeId × Value → H} {w : World} {held : Bool} {b0 : Nat} {r : Reach} {v : Value} {d : DataW H} {p : List MemPlace}
set_option maxRecDepth 100000 in
theorem open_nodes (hv : Value.okWide Tryd.prog w r b0 42 v) (h : DataW.Trod enc Tryd.prog w 0 (fun _ => true) held 42 v d p) : ∃ ao n cp xs, v = .slice ao n cp ∧ NdsAt w ao n xs := by
  obtain ⟨fuel, hf⟩ := h
  have hvc : v.cells.toList = [v] := by
    simp only [Value.okWide, Tryd.underlying42, Cell.okWide] at hv
    cases v <;> simp_all [Value.cells, Cell.ok]
  rw [hvc] at hf
  obtain ⟨ao, n, cp, xs, e, hr, _⟩ := rowsO_of_trod Nde.zero Nde.cells 6 NdA Tryd.underlying42 cel48 (by decide) (fun _ => rfl) (fun _ _ _ h => node_of_trod h) hf
  exact ⟨ao, n, cp, xs, e, hr⟩
end
end Go.Proofs.YteoihdkaoipocaaDoor
