/- What the arguments of the statements about gangs read as, opened: a row of amounts, an act of a pool, a row of such acts. Plain theorems: no condition. -/
import Derived.Test.YtpjajiambbobhaaOpenb
import Derived.Test.YtpjajiambbobhaaGact
namespace Go.Proofs.Ytpjajiambbobhaa
open Go.ChangeShapes Go.WideShapes Go.ChangeAt Go.RowKit

theorem Try.c48 : Try.prog.cellsOf 48 = 1 := by kernel_rfl
theorem Try.c50 : Try.prog.cellsOf 50 = 9 := by kernel_rfl

theorem list9 {α : Type} {l : List α} (h : l.length = 9) : ∃ a b c d e f g i j, l = [a, b, c, d, e, f, g, i, j] := by
  match l, h with
  | [a, b, c, d, e, f, g, i, j], _ => exact ⟨a, b, c, d, e, f, g, i, j, rfl⟩
theorem choose_below {α : Type} {n : Nat} {p : Nat → α → Prop} (z : α) (h : ∀ i, i < n → ∃ x, p i x) : ∃ f : Nat → α, ∀ i, i < n → p i (f i) :=
  ⟨fun i => if hi : i < n then (h i hi).choose else z, fun i hi => by simp only [hi, dif_pos]; exact (h i hi).choose_spec⟩

section
variable {H : Type} {enc : TypeId × Value → H} {w : World} {held : Bool} {fuel : Nat} {cs : List Value} {x : DataW H × List MemPlace}

theorem ints_of_trod {c : Value} (h : DataW.trod enc Try.prog w 0 (fun _ => true) held fuel 48 [c] = some x) : ∃ ao n cp zs, c = .slice ao n cp ∧ IntsAt w ao n zs ∧ n ≤ cp := by
  rcases Go.Deep.open_slice1 Try.underlying48 Try.c3 h with ⟨hcs, _⟩ | ⟨a, len, cap, m, k, V, D, Pl, hcs, _, hl, hm, hmm, _, hi⟩
  · simp at hcs
    exact ⟨none, 0, 0, [], hcs, ⟨rfl, by omega, fun i hi => by omega⟩, Nat.le_refl _⟩
  · simp at hcs
    have mx : maxLen = 9223372036854775807 := by kernel_rfl
    have hmc : m = cap := by simpa using hmm
    have hc : ∀ i, i < len → ∃ z : Int, w.cell? (a.add i) = some (.int .i64 z) := fun i hil => by
      obtain ⟨h1, h2⟩ := hi i (by omega)
      obtain ⟨n, e, _⟩ := DataW.trod_int Try.underlying3 h2
      simp at e
      exact ⟨n, by rw [h1, e]⟩
    obtain ⟨f, hf⟩ := choose_below 0 hc
    refine ⟨some a, len, cap, (List.range len).map f, hcs, ⟨by simp, by rw [mx] at hm; omega, fun i hil => ?_⟩, hl⟩
    have h0 := hf i hil
    obtain ⟨b, off, spot⟩ := a
    have hsp : spot = none := by simpa [Addr.add] using World.cell?_spot (hf 0 (by omega))
    subst hsp
    rw [add_plain] at h0
    refine ⟨b, off, rfl, World.block_lt_of_cell? w _ h0, ?_⟩
    rw [h0]
    simp [zi, List.getD, hil]

theorem actg_of_trod (h : DataW.trod enc Try.prog w 0 (fun _ => true) held fuel 50 cs = some x) : ∃ a : Actg, cs = a.val.cells.toList ∧ a.ok w ∧ Num a.fr ∧ Num a.tt ∧ Num a.many := by
  obtain ⟨xs, n, _, rfl, hl, hlen, hf⟩ := DataW.trod_struct Try.underlying50 h
  rw [Try.c50] at hl
  obtain ⟨c0, c1, c2, c3, c4, c5, c6, c7, c8, rfl⟩ := list9 hl
  match xs, hlen with
  | [y0, y1, y2, y3, y4, y5], _ =>
    have h0 := hf 0 _ rfl; have h1 := hf 1 _ rfl; have h2 := hf 2 _ rfl; have h3 := hf 3 _ rfl; have h4 := hf 4 _ rfl; have h5 := hf 5 _ rfl
    simp [Try.c3] at h0 h2 h3 h4
    simp [Try.c48] at h1
    simp [Try.c23] at h5
    obtain ⟨n0, e0, _⟩ := DataW.trod_int Try.underlying3 h0
    obtain ⟨ao, m, cp, zs, rfl, hz, hmc⟩ := ints_of_trod h1
    obtain ⟨n2, e2, _, w2⟩ := DataW.trod_int Try.underlying3 h2
    obtain ⟨n3, e3, _, w3⟩ := DataW.trod_int Try.underlying3 h3
    obtain ⟨n4, e4, _, w4⟩ := DataW.trod_int Try.underlying3 h4
    obtain ⟨v, ev⟩ := vec_of_trod h5
    simp at e0 e2 e3 e4 ev
    obtain ⟨rfl, rfl, rfl, rfl⟩ := ev
    subst e0; subst e2; subst e3; subst e4
    exact ⟨⟨n0, ao, m, cp, zs, n2, n3, n4, v⟩, rfl, ⟨hz, hmc⟩, bounds_i64 w2, bounds_i64 w3, bounds_i64 w4⟩
end

section
variable {H : Type} {enc : TypeId × Value → H} {w : World} {held : Bool} {b0 : Nat} {r : Reach} {v : Value} {d : DataW H} {p : List MemPlace}

set_option maxRecDepth 100000 in
theorem open_actg (hv : Value.okWide Try.prog w r b0 50 v) (h : DataW.Trod enc Try.prog w 0 (fun _ => true) held 50 v d p) : ∃ a : Actg, v = a.val ∧ a.ok w ∧ Num a.fr ∧ Num a.tt ∧ Num a.many := by
  obtain ⟨cs, rfl, _⟩ := okWide_struct Try.underlying50 hv
  obtain ⟨fuel, hf⟩ := h
  obtain ⟨a, e, h1, h2⟩ := actg_of_trod hf
  refine ⟨a, ?_, h1, h2⟩
  cases cs
  simp [Value.cells] at e
  simp [e]

set_option maxRecDepth 100000 in
theorem open_actgs (hv : Value.okWide Try.prog w r b0 47 v) (h : DataW.Trod enc Try.prog w 0 (fun _ => true) held 47 v d p) : ∃ acts : List Actg, ActgsAt w v acts := by
  obtain ⟨fuel, hf⟩ := h
  rcases Go.Deep.open_slice Try.underlying47 hf with ⟨hcs, _⟩ | ⟨a, len, cap, m, n, D, Pl, hcs, _, hl, hm, hmm, _, hi⟩
  · refine ⟨[], none, 0, ?_, by simp, fun i hi => by simp at hi⟩
    simp only [Value.okWide, Try.underlying47, Cell.okWide] at hv
    cases v <;> simp_all [Value.cells, Cell.ok]
  · have hvs : v = .slice (some a) len cap := by
      simp only [Value.okWide, Try.underlying47, Cell.okWide] at hv
      cases v <;> simp_all [Value.cells, Cell.ok]
    have mx : maxLen = 9223372036854775807 := by kernel_rfl
    have hmc : m = cap := by simpa using hmm
    have hc : ∀ i, i < len → ∃ x : Actg, x.ok w ∧ ∀ j, j < 9 → w.cell? (a.add (i * 9 + j)) = x.val.cells.toList[j]? := fun i hil => by
      obtain ⟨cs', hc, ht⟩ := hi i (by omega)
      obtain ⟨x, rfl, ok, _⟩ := actg_of_trod ht
      obtain ⟨_, _, hat⟩ := World.cells?_some hc
      rw [Try.c50] at hat
      exact ⟨x, ok, fun j hj => by rw [← Go.Deep.add_add]; exact hat j hj⟩
    obtain ⟨f, hf2⟩ := choose_below Actg.zero hc
    refine ⟨(List.range len).map f, some a, cap, by simpa using hvs, by simp; rw [mx] at hm; omega, fun i hil => ?_⟩
    simp at hil
    have hx : actg ((List.range len).map f) i = f i := by simp [actg, List.getD, hil]
    have h0 : w.cell? (a.add (0 * 9 + 0)) = some (.int .i64 (f 0).kind) := (hf2 0 (by omega)).2 0 (by omega)
    obtain ⟨b, off, spot⟩ := a
    have hsp : spot = none := by simpa [Addr.add] using World.cell?_spot h0
    subst hsp
    have e : ∀ j, j < 9 → w.cell? ⟨b, off + i * 9 + j, none⟩ = (f i).val.cells.toList[j]? := fun j hj => by
      rw [← (hf2 i hil).2 j hj, add_plain, Nat.add_assoc]
    refine ⟨b, off, rfl, World.block_lt_of_cell? w _ (show w.cell? ⟨b, off + i * 9 + 0, none⟩ = some (.int .i64 (f i).kind) from e 0 (by omega)), ?_⟩
    rw [hx]
    exact ⟨(hf2 i hil).1, e 0 (by omega), e 1 (by omega), e 2 (by omega), e 3 (by omega), e 4 (by omega), e 5 (by omega), e 6 (by omega), e 7 (by omega), e 8 (by omega)⟩

set_option maxRecDepth 100000 in
theorem open_vecs (hv : Value.okWide Try.prog w r b0 53 v) (h : DataW.Trod enc Try.prog w 0 (fun _ => true) held 53 v d p) : ∃ ao n cp vs, v = .slice ao n cp ∧ VecsAt w ao n vs := by
  obtain ⟨fuel, hf⟩ := h
  rcases Go.Deep.open_slice Try.underlying53 hf with ⟨hcs, _⟩ | ⟨a, len, cap, m, n, D, Pl, hcs, _, hl, hm, hmm, _, hi⟩
  · refine ⟨none, 0, 0, [], ?_, rfl, by omega, fun i hi => by omega⟩
    simp only [Value.okWide, Try.underlying53, Cell.okWide] at hv
    cases v <;> simp_all [Value.cells, Cell.ok]
  · have hvs : v = .slice (some a) len cap := by
      simp only [Value.okWide, Try.underlying53, Cell.okWide] at hv
      cases v <;> simp_all [Value.cells, Cell.ok]
    have mx : maxLen = 9223372036854775807 := by kernel_rfl
    have hmc : m = cap := by simpa using hmm
    have hc : ∀ i, i < len → ∃ x : V4, ∀ j, j < 4 → w.cell? (a.add (i * 4 + j)) = x.cells.toList[j]? := fun i hil => by
      obtain ⟨cs', hc, ht⟩ := hi i (by omega)
      obtain ⟨x, rfl⟩ := vec_of_trod ht
      obtain ⟨_, _, hat⟩ := World.cells?_some hc
      rw [Try.c23] at hat
      exact ⟨x, fun j hj => by rw [← Go.Deep.add_add]; exact hat j hj⟩
    obtain ⟨f, hf2⟩ := choose_below V4.zero hc
    refine ⟨some a, len, cap, (List.range len).map f, hvs, by simp, by rw [mx] at hm; omega, fun i hil => ?_⟩
    have hx : vv ((List.range len).map f) i = f i := by simp [vv, List.getD, hil]
    have h0 : w.cell? (a.add (0 * 4 + 0)) = some (.int .i64 (f 0).a) := hf2 0 (by omega) 0 (by omega)
    obtain ⟨b, off, spot⟩ := a
    have hsp : spot = none := by simpa [Addr.add] using World.cell?_spot h0
    subst hsp
    have e : ∀ j, j < 4 → w.cell? ⟨b, off + i * 4 + j, none⟩ = (f i).cells.toList[j]? := fun j hj => by
      rw [← hf2 i hil j hj, add_plain, Nat.add_assoc]
    refine ⟨b, off, rfl, World.block_lt_of_cell? w _ (show w.cell? ⟨b, off + i * 4 + 0, none⟩ = some (.int .i64 (f i).a) from e 0 (by omega)), ?_⟩
    rw [hx]
    exact ⟨e 0 (by omega), e 1 (by omega), e 2 (by omega), e 3 (by omega)⟩
end
end Go.Proofs.Ytpjajiambbobhaa
