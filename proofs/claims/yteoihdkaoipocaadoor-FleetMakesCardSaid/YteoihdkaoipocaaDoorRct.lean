/- corveeref03.Cut: a text's pieces; corveeref03.Right. -/
import Derived.Test.YteoihdkaoipocaaDoorVrd
import Derived.Maps.AppendAt
import Derived.Lib.SmallJoins
import Derived.Deep.DeepCutAuto
namespace Go.Proofs.YteoihdkaoipocaaDoor
open Go.RowKit

/-- a row of texts in memory -/
structure StrsAt (w : World) (so : Option Addr) (n : Nat) (xs : List ByteArray) : Prop where
  len : xs.length = n
  max : n ≤ 9223372036854775807
  cell : ∀ i x, xs[i]? = some x → ∃ b off, so = some ⟨b, off, none⟩ ∧ b < w.heap.size ∧ w.cell? ⟨b, off + i, none⟩ = some (.string x)
theorem StrsAt.below {w w' : World} {B : Nat} {so : Option Addr} {n : Nat} {xs : List ByteArray} (h : StrsAt w so n xs) (hb : Below B w w') (hB : w.heap.size ≤ B) : StrsAt w' so n xs :=
  ⟨h.len, h.max, fun i x hx => by
    obtain ⟨b, off, e, hlt, hc⟩ := h.cell i x hx
    exact ⟨b, off, e, Nat.lt_of_lt_of_le hlt hb.size, (below_cell hb (by omega)).trans hc⟩⟩
theorem StrsAt.low {w w' : World} {so : Option Addr} {n : Nat} {xs : List ByteArray} (h : StrsAt w so n xs) (hb : Below w.heap.size w w') : StrsAt w' so n xs := h.below hb (Nat.le_refl _)
theorem StrsAt.get {w : World} {so : Option Addr} {n : Nat} {xs : List ByteArray} (h : StrsAt w so n xs) {i : Nat} (hi : i < n) : ∃ x, xs[i]? = some x := ⟨_, List.getElem?_eq_getElem (by rw [h.len]; exact hi)⟩
theorem owns_cap {w : World} {base g cap n m size : Nat} {e : TypeId} {xs : List Value} (h : w.ownsRow base e size (.slice (some ⟨g, 0, none⟩) n cap) m xs) : m ≤ cap := by
  rcases h.2 with ⟨hv, _⟩ | ⟨g', cap', cur, hv, _, _, hc, _⟩
  · cases hv
  · cases hv; exact hc
theorem owns_at {w : World} {base g cap n m size : Nat} {e : TypeId} {xs : List Value} (h : w.ownsRow base e size (.slice (some ⟨g, 0, none⟩) n cap) m xs) : ∃ c, w.heap[g]? = some (.cells c e (0, 0)) := by
  rcases h.2 with ⟨hv, _⟩ | ⟨g', cap', cur, hv, _, hh, _, _⟩
  · cases hv
  · cases hv; exact ⟨cur, hh⟩
/-- a row of one's own is a row of texts -/
theorem strs_of_own {w : World} {base g cap n : Nat} {xs : List ByteArray} (h : w.ownsRow base 9 1 (.slice (some ⟨g, 0, none⟩) n cap) n (xs.map .string)) (hm : n ≤ 9223372036854775807) : StrsAt w (some ⟨g, 0, none⟩) n xs := by
  have hl : xs.length = n := by have := h.1; simpa using this
  refine ⟨hl, hm, fun i x hx => ?_⟩
  have hi := (List.getElem?_eq_some_iff.1 hx).1
  refine ⟨g, 0, rfl, (h.lt g rfl).2, ?_⟩
  rw [Nat.zero_add, World.ownsRow.cellAt h i (by omega), List.getElem?_map, hx]; rfl
theorem strs_of_blk {w : World} {b : Nat} {xs : List ByteArray} {fr : Nat × Nat} (h : w.heap[b]? = some (.cells (xs.map Value.string).toArray 9 fr)) (hm : xs.length ≤ 9223372036854775807) : StrsAt w (some ⟨b, 0, none⟩) xs.length xs :=
  ⟨rfl, hm, fun i x hx => ⟨b, 0, rfl, blk_lt h, by rw [Nat.zero_add, blk_cell h]; simp [hx]⟩⟩
theorem StrsAt.sub {w : World} {b off n : Nat} {xs : List ByteArray} (h : StrsAt w (some ⟨b, off, none⟩) n xs) (k : Nat) (hk : k ≤ n) : StrsAt w (some ⟨b, off + k, none⟩) (n - k) (xs.drop k) :=
  ⟨by rw [List.length_drop, h.len], by have := h.max; omega, fun i x hx => by
    rw [List.getElem?_drop] at hx
    obtain ⟨b', off', e, hlt, hc⟩ := h.cell (k + i) x hx
    cases e
    exact ⟨b, off + k, rfl, hlt, by rw [Nat.add_assoc]; exact hc⟩⟩

theorem info9 : (Tryd.prog.info? 9).map (fun i => (i.zero, i.size, i.bytes)) = some (some (.string ByteArray.empty), 1, 16) := by kernel_rfl
theorem maxLen_ge {n : Nat} (h : n ≤ 9000000000) : n + 1 ≤ maxLen := by have : maxLen = 9223372036854775807 := rfl; omega
theorem str_new (w : World) (x : ByteArray) : ∀ j u, [Value.string x][j]? = some u → (w.alloc (.cells #[.string x] 9 (0, 0))).cell? ((⟨w.heap.size, 0, none⟩ : Addr).add j) = some u := cell_one_new w (.string x) 9
theorem str_one (x : ByteArray) : ∀ u ∈ [Value.string x], u.oneCell' = true := by simp [Value.oneCell']
theorem chz_eq (s : ByteArray) (k : Nat) (hk : k < s.size) (x : UInt8) : (chz s k == (x.toNat : Int)) = decide (s.data.toList[k]? = some x) := by
  have h2 : k < s.data.toList.length := hk
  have h4 : k < s.data.size := hk
  have h3 : s.data.toList.getD k 0 = s.data.toList[k] := by
    simp only [List.getD, Array.getElem?_toList, Array.getElem_toList]
    rw [Array.getElem?_eq_getElem h4]; rfl
  unfold chz
  rw [h3, List.getElem?_eq_getElem h2]
  rw [Bool.eq_iff_iff]
  simp only [beq_iff_eq, decide_eq_true_eq, Option.some.injEq]
  constructor
  · intro e; exact UInt8.toNat_inj.1 (by omega)
  · intro e; rw [e]
theorem take_one {α : Type} (l : List α) (k f : Nat) (x : α) (hx : l[k]? = some x) (hf : f ≤ k) : (l.drop f).take (k + 1 - f) = (l.drop f).take (k - f) ++ [x] := by
  obtain ⟨d, rfl⟩ : ∃ d, k = f + d := ⟨k - f, by omega⟩
  rw [show f + d + 1 - f = d + 1 by omega, show f + d - f = d by omega, List.take_add_one, List.getElem?_drop, hx]
  rfl
theorem drop_hit {α : Type} (l : List α) (k f : Nat) (x : α) (hx : l[k]? = some x) (hf : f ≤ k) : l.drop f = (l.drop f).take (k - f) ++ x :: l.drop (k + 1) := by
  obtain ⟨d, rfl⟩ : ∃ d, k = f + d := ⟨k - f, by omega⟩
  have hl := (List.getElem?_eq_some_iff.1 hx).1
  have e : (l.drop f).drop d = x :: l.drop (f + d + 1) := by
    rw [List.drop_drop, List.drop_eq_getElem_cons hl, (List.getElem?_eq_some_iff.1 hx).2]
  rw [show f + d - f = d by omega, ← e, List.take_append_drop]

structure CtW (w : World) (s : ByteArray) (x : UInt8) (k f : Nat) (n : Nat) (done : List ByteArray) (ov : Value) (wr : World) : Prop where
  low : Below w.heap.size w wr
  own : wr.ownsRow w.heap.size 9 1 ov n (done.map Value.string)
  cut : (cutAll x s.data.toList).map ofL = done ++ (cutAll x (s.data.toList.drop f)).map ofL
  no : x ∉ (s.data.toList.drop f).take (k - f)
  fk : f ≤ k
  nk : n ≤ k

def StrsPost (xs : List ByteArray) (w : World) (e : Ending) (w' : World) : Prop :=
  ∃ so n c, e = .returned (.slice so n c) ∧ n ≤ c ∧ StrsAt w' so n xs ∧ (∀ b off, so = some ⟨b, off, none⟩ → off = 0 ∧ w.heap.size ≤ b ∧ ∃ c, w'.heap[b]? = some (.cells c 9 (0, 0))) ∧ Below w.heap.size w w'
set_option maxRecDepth 100000 in
set_option maxHeartbeats 3200000 in
theorem rcut_any (s : ByteArray) (x : UInt8) (w : World) (hs : s.size ≤ 4294967280) : Calls Tryd.prog 29 #[.string s, .int .u8 (x.toNat : Int)] w (StrsPost ((cutAll x s.data.toList).map ofL) w) := by
  obtain ⟨i9, hi9, hz9, hz91, hz92⟩ := info_parts info9
  have hix : ∀ (k : Nat), k < s.size → ∀ w, (Instr.index 9 (.string s) (.int .i64 (k : Int))).run Tryd.prog w = .ok (.int .u8 (chz s k)) w := fun k hk w => index_at Tryd.underlying9 s k k rfl hk w
  have hsl : ∀ (f k : Nat), f ≤ k → k ≤ s.size → ∀ w, (Instr.slice 9 (.string s) (some (.int .i64 (f : Int))) (some (.int .i64 (k : Int))) none).run Tryd.prog w = .ok (.string (ofL ((s.data.toList.drop f).take (k - f)))) w := fun f k h1 h2 w => by
    rw [run_slice_string w 9 s .i64 .i64 f k Tryd.underlying9 (by omega) (by omega) (by omega)]
    congr 2
    exact toL_inj (by rw [ofL_toL, Lib.extract_data]; rfl)
  have hse : ∀ (f : Nat), f ≤ s.size → ∀ w, (Instr.slice 9 (.string s) (some (.int .i64 (f : Int))) none none).run Tryd.prog w = .ok (.string (ofL (s.data.toList.drop f))) w := fun f h1 w => by
    rw [run_slice_string_from_if w 9 s .i64 f Tryd.underlying9, if_pos ⟨by omega, by omega⟩]
    congr 2
    exact toL_inj (by rw [ofL_toL, Lib.extract_to_end]; rfl)
  have hC0 : CtW w s x 0 0 0 [] (.slice none 0 0) w := ⟨Below.refl _ _, World.ownsRow_nil _ _ _ _, by simp, by simp, Nat.le_refl _, Nat.le_refl _⟩
  replace hix := Lib.hid hix; replace hsl := Lib.hid hsl; replace hse := Lib.hid hse; replace hC0 := Lib.hid hC0
  go_enter Tryd.func29, Tryd.ntmps29
  go_wp2
  go_loopw [5, 6, 7] (fun ov fv i wr => ∃ (k f n : Nat) (done : List ByteArray), i = .int .i64 k ∧ fv = .int .i64 f ∧ k ≤ s.size ∧ f ≤ k ∧ n ≤ k ∧ Hid (CtW w s x k f n done ov wr)) (fun _ _ i _ => s.size - (intOf i).toNat)
  case atStart => exact ⟨0, 0, 0, [], rfl, rfl, Nat.zero_le _, Nat.le_refl _, Nat.le_refl _, hC0.out⟩
  case round =>
    obtain ⟨k, f, n, done, rfl, rfl, hk, hf, hnk, hC⟩ := hrel
    by_cases hk1 : k < s.size
    · have hc1 : (k : Int) < s.size := by omega
      have hi1 := hix.out k hk1
      have hq := chz_eq s k hk1 x
      obtain ⟨c, hc⟩ : ∃ c, c = chz s k := ⟨_, rfl⟩
      rw [← hc] at hi1 hq
      by_cases he : s.data.toList[k]? = some x
      · have d : (c == (x.toNat : Int)) = true := by rw [hq]; exact decide_eq_true he
        have hs1 := hsl.out f k hf (by omega)
        obtain ⟨pc, hpc⟩ : ∃ pc, pc = ofL ((s.data.toList.drop f).take (k - f)) := ⟨_, rfl⟩
        rw [← hpc] at hs1
        have hownA := ((hC.out).own).alloc (.cells #[.string pc] 9 (0, 0))
        have hnews := str_new wr pc
        have hone := str_one pc
        have h63 := maxLen_ge (n := n) (by omega)
        have hby : (n + 1) * 16 ≤ 140737488355328 := by omega
        have hbas : w.heap.size ≤ (wr.alloc (.cells #[.string pc] 9 (0, 0))).heap.size := by have := (hC.out).low.size; simp; omega
        replace hownA := Lib.hid hownA; replace hnews := Lib.hid hnews; replace hone := Lib.hid hone; replace h63 := Lib.hid h63; replace hby := Lib.hid hby; replace hbas := Lib.hid hbas
        replace hc := Lib.hid hc; replace he := Lib.hid he; replace hq := Lib.hid hq; replace hpc := Lib.hid hpc
        go_wp2_with (at_builtin; refine wpList_append_own _ rfl _ _ 36 rfl (w.heap.size) 9 i9 _ 1 16 Tryd.underlying36 hi9 hz9 hz91 hz92 rfl Nat.one_pos _ n _ rfl hownA.out ⟨wr.heap.size, 0, none⟩ 1 1 [.string pc] rfl rfl hnews.out hone.out h63.out hby.out hbas.out ?_; intro v1 w9 hown9 hgrow _; replace hown9 := Lib.hid hown9; replace hgrow := Lib.hid hgrow)
        have hC9 : CtW w s x (k + 1) (k + 1) (n + 1) (done ++ [pc]) v1 w9 := by
          refine ⟨(hC.out.low.alloc hC.out.low.size _).grown hgrow.out (by have := hC.out.low.size; simp; omega) (fun j e => (hC.out.own.lt j e).1), by rw [List.map_append]; exact hown9.out, ?_, by simp, Nat.le_refl _, by omega⟩
          rw [hC.out.cut, drop_hit _ k f x he.out hf, cutAll_hit hC.out.no, hpc.out]; simp
        replace hC9 := Lib.hid hC9
        go_wp2
        go_roundw
        case rel => exact ⟨k + 1, k + 1, n + 1, done ++ [pc], by go_num, by go_num, by omega, by omega, by omega, hC9.out⟩
        case measure => simp [intOf]; omega
      · have d : (c == (x.toNat : Int)) = false := by rw [hq]; exact decide_eq_false he
        have hC9 : CtW w s x (k + 1) f n done u5 wr := by
          refine ⟨hC.out.low, hC.out.own, hC.out.cut, ?_, by omega, by omega⟩
          obtain ⟨y, hy⟩ : ∃ y, s.data.toList[k]? = some y := ⟨_, List.getElem?_eq_getElem hk1⟩
          rw [take_one _ k f y hy hf]
          intro hm
          rcases List.mem_append.1 hm with h | h
          · exact hC.out.no h
          · have : x = y := by simpa using h
            rw [this] at he; exact he hy
        replace hc := Lib.hid hc; replace he := Lib.hid he; replace hq := Lib.hid hq; replace hC9 := Lib.hid hC9
        go_wp2
        go_roundw
        case rel => exact ⟨k + 1, f, n, done, by go_num, rfl, by omega, by omega, by omega, hC9.out⟩
        case measure => simp [intOf]; omega
    · have hc1 : ¬ (k : Int) < s.size := by omega
      have hkn : k = s.size := by omega
      have hs1 := hse.out f (by omega)
      obtain ⟨pc, hpc⟩ : ∃ pc, pc = ofL (s.data.toList.drop f) := ⟨_, rfl⟩
      rw [← hpc] at hs1
      have hownA := ((hC.out).own).alloc (.cells #[.string pc] 9 (0, 0))
      have hnews := str_new wr pc
      have hone := str_one pc
      have h63 := maxLen_ge (n := n) (by omega)
      have hby : (n + 1) * 16 ≤ 140737488355328 := by omega
      have hbas : w.heap.size ≤ (wr.alloc (.cells #[.string pc] 9 (0, 0))).heap.size := by have := (hC.out).low.size; simp; omega
      replace hownA := Lib.hid hownA; replace hnews := Lib.hid hnews; replace hone := Lib.hid hone; replace h63 := Lib.hid h63; replace hby := Lib.hid hby; replace hbas := Lib.hid hbas
      replace hpc := Lib.hid hpc; replace hkn := Lib.hid hkn
      go_wp2_with (at_builtin; refine wpList_append_own _ rfl _ _ 36 rfl (w.heap.size) 9 i9 _ 1 16 Tryd.underlying36 hi9 hz9 hz91 hz92 rfl Nat.one_pos _ n _ rfl hownA.out ⟨wr.heap.size, 0, none⟩ 1 1 [.string pc] rfl rfl hnews.out hone.out h63.out hby.out hbas.out ?_; intro v1 w9 hown9 hgrow _; obtain ⟨g, cap1, rfl⟩ := Joins.ownsRow_form hown9 (Nat.succ_pos _); replace hown9 := Lib.hid hown9; replace hgrow := Lib.hid hgrow)
      have hlow9 : Below w.heap.size w w9 := (hC.out.low.alloc hC.out.low.size _).grown hgrow.out (by have := hC.out.low.size; simp; omega) (fun j e => (hC.out.own.lt j e).1)
      have hown : w9.ownsRow w.heap.size 9 1 (.slice (some ⟨g, 0, none⟩) (n + 1) cap1) (n + 1) (((cutAll x s.data.toList).map ofL).map Value.string) := by
        have hno := hC.out.no
        rw [List.take_of_length_le (by rw [List.length_drop, toL_len]; have := hkn.out; omega)] at hno
        rw [hC.out.cut, cutAll_no hno, List.map_append]
        have h := hown9.out
        rw [hpc.out] at h
        exact h
      replace hlow9 := Lib.hid hlow9; replace hown := Lib.hid hown
      go_ret
      exact ⟨some ⟨g, 0, none⟩, n + 1, cap1, rfl, owns_cap hown.out, strs_of_own hown.out (by omega), fun b off e => by cases e; exact ⟨rfl, (hown.out.lt g rfl).1, owns_at hown.out⟩, hlow9.out⟩
end Go.Proofs.YteoihdkaoipocaaDoor
