/- Parts Base, Vec, Nam, Num, Pcs, Vrd, Rct, Dig, Rtx, Nod, Flt, Put in one text. Plain theorems: no condition. -/
import Derived.Test.YteoihdkaoipocaaDoorProg
import Derived.WalkKit
import Derived.WalkLawsBesides
import Derived.WalkSpells
import Derived.Lib.Hide
import Derived.Deep.QuietTactic
import Derived.BigQuiet
import Derived.KernelRfl
import Derived.Test.YteoihdkaoipocaaDoorShelf
import Derived.Maps.AppendAt
import Derived.Lib.SmallJoins
import Derived.Deep.DeepCutAuto
import Derived.Lib.ItoaNum
import Derived.IntWalk
import Derived.StillTailTactics
import Derived.Maps.OwnSet
import Derived.Maps.OwnOps
import Derived.Maps.Own
import Derived.Deep.RegionWith
import Derived.Deep.CutBlock
import Derived.Deep.RegionLaw
import Derived.Deep.RegionHeld3
/- Small laws on blocks of memory, and the four amounts. -/
namespace Go.Proofs.YteoihdkaoipocaaDoor
open Go.RowKit

/-- an amount of each of the four resources -/
structure V4 where
  a : Int
  b : Int
  c : Int
  d : Int
deriving DecidableEq

def V4.get (v : V4) : Nat → Int
  | 0 => v.a
  | 1 => v.b
  | 2 => v.c
  | _ => v.d

abbrev V4.cells (v : V4) : Array Value := #[.int .i64 v.a, .int .i64 v.b, .int .i64 v.c, .int .i64 v.d]
abbrev V4.val (v : V4) : Value := .agg #[.int .i64 v.a, .int .i64 v.b, .int .i64 v.c, .int .i64 v.d]

theorem lt4 {i : Nat} (h : i < 4) : i = 0 ∨ i = 1 ∨ i = 2 ∨ i = 3 := by omega

theorem below_cell {B : Nat} {w w' : World} (h : Below B w w') {b o : Nat} (hb : b < B) : w'.cell? ⟨b, o, none⟩ = w.cell? ⟨b, o, none⟩ := h.cell (p := ⟨b, o, none⟩) hb

section
variable {w w' : World} {b b' o B : Nat} {c : Array Value} {T : TypeId} {fr : Nat × Nat} {x y : Obj} {v : Value}
theorem blk_cell (h : w.heap[b]? = some (.cells c T fr)) (o : Nat) : w.cell? ⟨b, o, none⟩ = c[o]? := by simp [World.cell?, h]
theorem blk_free (h : w.heap[b]? = some (.cells c T (0, 0))) (o : Nat) : w.frozen? ⟨b, o, none⟩ = false := by simp [World.frozen?, h]
theorem blk_set (h : w.heap[b]? = some (.cells c T fr)) (o : Nat) (v : Value) : (w.setCell ⟨b, o, none⟩ v).heap[b]? = some (.cells (c.setIfInBounds o v) T fr) := by
  simp [World.setCell, Array.getElem?_modify, h]
theorem blk_set_other (hne : b ≠ b') (v : Value) (h : w.heap[b]? = some x) : (w.setCell ⟨b', o, none⟩ v).heap[b]? = some x := by
  rw [Below.heap_setCell _ _ _ _ hne]; exact h
theorem blk_lt (h : w.heap[b]? = some x) : b < w.heap.size := (Array.getElem?_eq_some_iff.1 h).1
theorem blk_new (w : World) (x : Obj) : (w.alloc x).heap[w.heap.size]? = some x := heap_alloc_new w x
theorem blk_at (w : World) (x : Obj) (h : b = w.heap.size) : (w.alloc x).heap[b]? = some x := h ▸ heap_alloc_new w x
theorem blk_old (y : Obj) (h : w.heap[b]? = some x) : (w.alloc y).heap[b]? = some x := (Below.heap_alloc w y b (blk_lt h)).trans h
theorem blk_below (hb : Below B w w') (h : w.heap[b]? = some x) (hlt : b < B) : w'.heap[b]? = some x := (hb.block b hlt).trans h
theorem blk_drew (h : w.heap[b]? = some x) : w.drew.heap[b]? = some x := h
theorem blk_drewN {n : Nat} (h : w.heap[b]? = some x) : (w.drewN n).heap[b]? = some x := h
end

theorem slice_to {P : Program} {t e : TypeId} {i : TypeInfo} (hU : P.underlying t = some (.slice e)) (hi : P.info? e = some i) (b len cap n : Nat) (x : Int) (hx : x = n) (hn : n ≤ cap) (w : World) :
    (Instr.slice t (.slice (some ⟨b, 0, none⟩) len cap) none (some (.int .i64 x)) (some (.int .i64 x))).run P w = .ok (.slice (some ⟨b, 0, none⟩) n n) w := by
  subst hx
  have h1 : ∀ (y : Nat) (_ : n ≤ y) c, (Instr.sliceBound (.int .i64 (n : Int)) y c).run P w = .ok n w := fun y h c => by
    simp [Instr.sliceBound, asIntOf, h]
  simp [Instr.slice, Instr.sliceBounds, run_underlying hU, h1 cap hn, h1 n (Nat.le_refl _), sizeOf, typeInfo, hi, Addr.add]
theorem slice_from {P : Program} {t e : TypeId} {i : TypeInfo} (hU : P.underlying t = some (.slice e)) (hi : P.info? e = some i) (b len cap n : Nat) (x : Int) (hx : x = n) (hn : n ≤ len) :
    ∃ ta, (∀ w, (Instr.slice t (.slice (some ⟨b, 0, none⟩) len cap) (some (.int .i64 x)) none none).run P w = .ok (.slice (some ta) (len - n) (cap - n)) w) ∧ (n < cap → ta = ⟨b, n * i.size, none⟩) := by
  subst hx
  have h1 : ∀ (y : Nat) (_ : n ≤ y) c w, (Instr.sliceBound (.int .i64 (n : Int)) y c).run P w = .ok n w := fun y h c w => by
    simp [Instr.sliceBound, asIntOf, h]
  refine ⟨if cap = n then ⟨b, 0, none⟩ else (⟨b, 0, none⟩ : Addr).add (n * i.size), fun w => ?_, fun h => ?_⟩
  · simp [Instr.slice, Instr.sliceBounds, run_underlying hU, h1 len hn, sizeOf, typeInfo, hi]
    split <;> rfl
  · rw [if_neg (by omega)]
    unfold Addr.add
    split
    · next h => rw [h]
    · simp

theorem enters {F : FuncId} {fn : Func} (h : Tryd.prog.funcs[F]? = some fn) (hn : fn.name ≠ "runtime.NumGoroutine") (hb : fn.body ≠ none) :
    ∀ args w, (callFunc F args).run Tryd.prog w = .ok (.enter F args) w := by
  intro args w
  simp [callFunc, go_sem, h, hn, hb]
end Go.Proofs.YteoihdkaoipocaaDoor

/- Package vec: what Right, Fits, Least, Add, Sub answer. -/
namespace Go.Proofs.YteoihdkaoipocaaDoor
open Go.RowKit

def okn (x : Int) : Bool := decide (0 ≤ x) && decide (x ≤ 1073741824)
def V4.right (v : V4) : Bool := okn v.a && okn v.b && okn v.c && okn v.d
def V4.fits (u v : V4) : Bool := decide (u.a ≤ v.a) && decide (u.b ≤ v.b) && decide (u.c ≤ v.c) && decide (u.d ≤ v.d)

/-- vec.all over a function value: what it tells of 0, 1, 2, 3 together. -/
theorem all_any (F : FuncId) (caps : Array Value) (p : Nat → Bool) (w : World)
    (hF : ∀ args w, (callFunc F args).run Tryd.prog w = .ok (.enter F args) w)
    (H : ∀ (i : Nat) (w1 : World), i < 4 → Below w.heap.size w w1 → Calls Tryd.prog F (#[.int .i64 i] ++ caps) w1 fun e w2 => e = .returned (.bool (p i)) ∧ Below w.heap.size w1 w2) :
    Calls Tryd.prog 113 #[.func (.func F) #[] caps] w fun e w' => e = .returned (.bool (p 0 && p 1 && p 2 && p 3)) ∧ Below w.heap.size w w' := by
  have H' := Lib.hid H; clear H
  go_enter Tryd.func113, Tryd.ntmps113
  go_wp2
  go_loopw [3, 4] (fun _ i wr => ∃ k : Nat, k ≤ 4 ∧ i = .int .i64 k ∧ Below w.heap.size w wr ∧ (∀ j : Nat, j < k → p j = true)) (fun _ i _ => 4 - (intOf i).toNat)
  case atStart => exact ⟨0, by omega, rfl, Below.refl _ _, by omega⟩
  case round =>
    obtain ⟨k, hk, rfl, hb, hp⟩ := hrel
    have hp' := Lib.hid hp; clear hp
    by_cases h4 : k < 4
    · have hi : (k:Int) < 4 := by omega
      go_wp2_with fail
      refine (H'.out k _ h4 hb).mono ?_
      rintro e w2 ⟨rfl, hb2⟩
      cases hpk : p k
      · have hpk' := Lib.hid hpk; clear hpk
        go_wp2
        go_ret
        refine ⟨?_, hb.trans hb2⟩
        have hpk := hpk'.out
        have : (p 0 && p 1 && p 2 && p 3) = false := by
          rcases (show k = 0 ∨ k = 1 ∨ k = 2 ∨ k = 3 by omega) with rfl | rfl | rfl | rfl <;> simp [hpk]
        rw [this]
        rfl
      · have hpk' := Lib.hid hpk; clear hpk
        go_wp2
        go_roundw
        case rel =>
          refine ⟨k + 1, by omega, by go_num, hb.trans hb2, ?_⟩
          intro j hj
          by_cases hjk : j = k
          · subst hjk; exact hpk'.out
          · exact hp'.out j (by omega)
        case measure => simp [intOf]; omega
    · have hi : ¬ (k:Int) < 4 := by omega
      go_wp2
      go_ret
      refine ⟨?_, hb⟩
      have hp := hp'.out
      rw [hp 0 (by omega), hp 1 (by omega), hp 2 (by omega), hp 3 (by omega)]
      rfl

theorem enters114 : ∀ args w, (callFunc 114 args).run Tryd.prog w = .ok (.enter 114 args) w := enters Tryd.func114 (by decide) (by simp [Tryd.f114])

theorem right1_any (v : V4) (b : Nat) (i : Nat) (B : Nat) (w : World) (hi : i < 4)
    (h0 : w.cell? ⟨b, 0, none⟩ = some (.int .i64 v.a)) (h1 : w.cell? ⟨b, 1, none⟩ = some (.int .i64 v.b)) (h2 : w.cell? ⟨b, 2, none⟩ = some (.int .i64 v.c)) (h3 : w.cell? ⟨b, 3, none⟩ = some (.int .i64 v.d)) :
    Calls Tryd.prog 114 (#[.int .i64 i] ++ #[.pointer (some ⟨b, 0, none⟩)]) w fun e w' => e = .returned (.bool (okn (v.get i))) ∧ Below B w w' := by
  have key : ∀ x : Int, x < 0 → okn x = false := by intro x hx; simp [okn]; omega
  have key2 : ∀ x : Int, 0 ≤ x → okn x = decide (x ≤ 1073741824) := by intro x hx; simp [okn, hx]
  have hk := Lib.hid key; have hk2 := Lib.hid key2; clear key key2
  rcases lt4 hi with rfl | rfl | rfl | rfl
  all_goals
    go_enter Tryd.func114, Tryd.ntmps114
    go_wp2
    all_goals
      go_ret
      refine ⟨?_, Below.refl _ _⟩
      simp only [V4.get]
      first
        | (rw [hk.out _ (by assumption)]; rfl)
        | (rw [hk2.out _ (by assumption)]; rfl)

theorem right_any (v : V4) (w : World) :
    Calls Tryd.prog 70 #[v.val] w fun e w' => e = .returned (.bool v.right) ∧ Below w.heap.size w w' := by
  go_enter Tryd.func70, Tryd.ntmps70
  go_wp2_with fail
  refine (all_any 114 _ (fun i => okn (v.get i)) _ enters114 ?_).mono ?_
  · intro i w1 hi hb
    have hc : ∀ j, w1.cell? ⟨w.heap.size, j, none⟩ = _ := fun j => below_cell (o := j) hb (by simp)
    exact right1_any v w.heap.size i _ w1 hi (by rw [hc]; simp) (by rw [hc]; simp) (by rw [hc]; simp) (by rw [hc]; simp)
  · rintro e w2 ⟨rfl, hb2⟩
    go_wp2
    go_ret
    exact ⟨rfl, ((Below.refl _ _).alloc (Nat.le_refl _) _).trans (hb2.mono (by simp))⟩

theorem enters124 : ∀ args w, (callFunc 124 args).run Tryd.prog w = .ok (.enter 124 args) w := enters Tryd.func124 (by decide) (by simp [Tryd.f124])

theorem fits1_any (u v : V4) (b1 b2 : Nat) (i : Nat) (B : Nat) (w : World) (hi : i < 4)
    (hu : w.heap[b1]? = some (.cells u.cells 25 (0, 0))) (hv : w.heap[b2]? = some (.cells v.cells 25 (0, 0))) :
    Calls Tryd.prog 124 (#[.int .i64 i] ++ #[.pointer (some ⟨b1, 0, none⟩), .pointer (some ⟨b2, 0, none⟩)]) w fun e w' => e = .returned (.bool (decide (u.get i ≤ v.get i))) ∧ Below B w w' := by
  have c0 := blk_cell hu 0; have c1 := blk_cell hu 1; have c2 := blk_cell hu 2; have c3 := blk_cell hu 3
  have d0 := blk_cell hv 0; have d1 := blk_cell hv 1; have d2 := blk_cell hv 2; have d3 := blk_cell hv 3
  simp at c0 c1 c2 c3 d0 d1 d2 d3
  clear hu hv
  rcases lt4 hi with rfl | rfl | rfl | rfl
  all_goals
    go_enter Tryd.func124, Tryd.ntmps124
    go_wp2
    go_quiet (fail)
    go_wp2
    go_ret
    exact ⟨rfl, ⟨rfl, rfl, rfl, Nat.le_refl _, fun _ _ => rfl⟩⟩

theorem fits_any (u v : V4) (w : World) :
    Calls Tryd.prog 89 #[u.val, v.val] w fun e w' => e = .returned (.bool (u.fits v)) ∧ Below w.heap.size w w' := by
  go_enter Tryd.func89, Tryd.ntmps89
  go_wp2_with fail
  refine (all_any 124 _ (fun i => decide (u.get i ≤ v.get i)) _ enters124 ?_).mono ?_
  · intro i w1 hi hb
    exact fits1_any u v w.heap.size (w.heap.size + 1) i _ w1 hi (blk_below hb (blk_old _ (blk_new _ _)) (by simp; omega)) (blk_below hb (blk_at _ _ (by simp)) (by simp))
  · rintro e w2 ⟨rfl, hb2⟩
    go_wp2
    go_ret
    exact ⟨rfl, (((Below.refl _ _).alloc (Nat.le_refl _) _).alloc (by simp) _).trans (hb2.mono (by simp; omega))⟩

def V4.zero : V4 := ⟨0, 0, 0, 0⟩
def V4.told (v : V4) (e : Int) : V4 × Int := if v.right = true then (v, 0) else (V4.zero, e)
theorem told_any (v : V4) (e : Int) (w : World) :
    Calls Tryd.prog 138 #[v.val, .int .i64 e] w fun e' w' => e' = .returned (.tuple #[(v.told e).1.val, .int .i64 (v.told e).2]) ∧ Below w.heap.size w w' := by
  go_enter Tryd.func138, Tryd.ntmps138
  go_wp2_with fail
  refine (right_any v _).mono ?_
  rintro e w2 ⟨rfl, hb2⟩
  have g := blk_below hb2 (blk_at (b := w.heap.size + 1) _ _ (by simp)) (by simp)
  have cx := blk_cell g; have fx := blk_free g
  have g0 := blk_below hb2 (blk_old _ (blk_new _ _)) (by simp; omega)
  have cy := blk_cell g0
  clear g g0
  have hB : Below w.heap.size w w2 := (((Below.refl _ _).alloc (Nat.le_refl _) _).alloc (by simp) _).trans (hb2.mono (by simp; omega))
  cases hr : v.right
  all_goals
    have hr' := Lib.hid hr; clear hr
    go_wp2
    refine bodyPost_ret (v := .tuple #[(v.told e).1.val, .int .i64 (v.told e).2]) (by simp [results, Tryd.results138, go_sem, cx, V4.told, hr'.out, V4.zero]) rfl ⟨rfl, ?_⟩
    refine Below.setCell ?_ (by simp) _
    refine Below.setCell ?_ (by simp) _
    refine Below.setCell ?_ (by simp) _
    refine Below.setCell ?_ (by simp) _
    exact hB
end Go.Proofs.YteoihdkaoipocaaDoor

/- fleet.Name and corveeref05.Name: which texts are names. -/
namespace Go.Proofs.YteoihdkaoipocaaDoor
open Go.RowKit

abbrev Bs := List UInt8
/-- the letter at a place, as a number -/
def chz (s : ByteArray) (k : Nat) : Int := ((s.data.toList.getD k 0).toNat : Int)
def nameCh (c : Int) : Bool := (decide (97 ≤ c) && decide (c ≤ 122)) || (decide (48 ≤ c) && decide (c ≤ 57)) || decide (c = 45)
def nameTo (s : ByteArray) : Nat → Bool
  | 0 => true
  | k + 1 => nameTo s k && nameCh (chz s k)
def isName (s : ByteArray) : Bool := decide (1 ≤ s.size) && decide (s.size ≤ 16) && nameTo s s.size
theorem nameTo_le {s : ByteArray} {k n : Nat} (h : nameTo s n = true) (hk : k ≤ n) : nameTo s k = true := by
  induction n with
  | zero => have : k = 0 := by omega
            subst this; rfl
  | succ n ih =>
    simp only [nameTo, Bool.and_eq_true] at h
    by_cases c : k = n + 1
    · subst c; simp [nameTo, h]
    · exact ih h.1 (by omega)
theorem nameTo_no {s : ByteArray} {k : Nat} (hk : k < s.size) (h : nameCh (chz s k) = false) : nameTo s s.size = false := by
  rw [Bool.eq_false_iff]
  intro c
  have := nameTo_le c (show k + 1 ≤ s.size by omega)
  simp [nameTo, h] at this
theorem chz_lo (s : ByteArray) (k : Nat) : 0 ≤ chz s k := by unfold chz; omega
theorem chz_hi (s : ByteArray) (k : Nat) : chz s k < 256 := by unfold chz; have := UInt8.toNat_lt (s.data.toList.getD k 0); omega
theorem index_at {P : Program} {t : TypeId} (h : P.underlying t = some .string) (s : ByteArray) (k : Nat) (i : Int) (hi : i = k) (hk : k < s.size) (w : World) : (Instr.index t (.string s) (.int .i64 i)).run P w = .ok (.int .u8 (chz s k)) w := by
  subst hi
  rw [run_index_string w t s .i64 k h, dif_pos ⟨by omega, by omega⟩]
  have e : s[((k : Int)).toNat]'(by omega) = s.data.toList.getD k 0 := by
    have h2 : k < s.data.toList.length := by simpa using hk
    have h4 : k < s.data.size := hk
    have h3 : s.data.toList.getD k 0 = s.data.toList[k] := by
      simp only [List.getD, Array.getElem?_toList, Array.getElem_toList]
      rw [Array.getElem?_eq_getElem h4]; rfl
    rw [h3]
    rfl
  rw [e]
  rfl

theorem ch_cases (c : Int) : (nameCh c = true ∧ ((97 ≤ c ∧ c ≤ 122) ∨ (48 ≤ c ∧ c ≤ 57) ∨ c = 45)) ∨ (nameCh c = false ∧ ((c < 48 ∧ c ≠ 45) ∨ (57 < c ∧ c < 97) ∨ 122 < c)) := by
  by_cases h : (97 ≤ c ∧ c ≤ 122) ∨ (48 ≤ c ∧ c ≤ 57) ∨ c = 45
  · exact .inl ⟨by unfold nameCh; simp; omega, h⟩
  · refine .inr ⟨?_, by omega⟩
    rw [Bool.eq_false_iff]; intro hh
    unfold nameCh at hh
    simp at hh
    omega

set_option maxRecDepth 100000 in
set_option maxHeartbeats 1600000 in
theorem name_any (s : ByteArray) (w : World) (hs : s.size ≤ maxLen) : Calls Tryd.prog 19 #[.string s] w fun e w' => e = .returned (.bool (isName s)) ∧ Below w.heap.size w w' := by
  have hix : ∀ (k : Nat), k < s.size → ∀ w, (Instr.index 9 (.string s) (.int .i64 (k : Int))).run Tryd.prog w = .ok (.int .u8 (chz s k)) w := fun k hk w => index_at Tryd.underlying9 s k k rfl hk w
  have hmx : s.size ≤ 9223372036854775807 := hs
  replace hix := Lib.hid hix
  go_enter Tryd.func19, Tryd.ntmps19
  go_wp2
  go_loopw [3, 4, 7] (fun _ _ i wr => ∃ k : Nat, i = .int .i64 k ∧ k ≤ s.size ∧ Hid (nameTo s k = true) ∧ Hid (Below w.heap.size w wr)) (fun _ _ i _ => s.size - (intOf i).toNat)
  case atStart => exact ⟨0, rfl, Nat.zero_le _, rfl, Below.refl _ _⟩
  case round =>
    obtain ⟨k, rfl, hk, hy, hB⟩ := hrel
    by_cases hk1 : k < s.size
    · have hc1 : (k : Int) < s.size := by omega
      have hi1 := hix.out k hk1
      obtain ⟨c, hc⟩ : ∃ c, c = chz s k := ⟨_, rfl⟩
      rw [← hc] at hi1
      have hcs := ch_cases c
      rcases hcs with ⟨hch, h | h | h⟩ | ⟨hch, h | h | h⟩
      · have k1 : decide (c < 97) = false := by simp; omega
        have k2 : decide (122 < c) = false := by simp; omega
        have k3 : decide (c < 48) = false := by simp; omega
        have k4 : decide (57 < c) = true := by simp; omega
        have k5 : (c != 45) = true := by simp; try omega
        have hch' : nameCh (chz s k) = true := by rw [← hc]; exact hch
        replace hc := Lib.hid hc; replace hch := Lib.hid hch; replace hch' := Lib.hid hch'; replace h := Lib.hid h
        have hy2 : nameTo s (k + 1) = true := by simp only [nameTo, hy.out, hch'.out, Bool.and_self]
        replace hy2 := Lib.hid hy2
        go_wp2
        go_roundw
        case rel => exact ⟨k + 1, by go_num, by omega, hy2.out, hB.out⟩
        case measure => simp [intOf]; omega
      · have k1 : decide (c < 97) = true := by simp; omega
        have k2 : decide (122 < c) = false := by simp; omega
        have k3 : decide (c < 48) = false := by simp; omega
        have k4 : decide (57 < c) = false := by simp; omega
        have k5 : (c != 45) = true := by simp; try omega
        have hch' : nameCh (chz s k) = true := by rw [← hc]; exact hch
        replace hc := Lib.hid hc; replace hch := Lib.hid hch; replace hch' := Lib.hid hch'; replace h := Lib.hid h
        have hy2 : nameTo s (k + 1) = true := by simp only [nameTo, hy.out, hch'.out, Bool.and_self]
        replace hy2 := Lib.hid hy2
        go_wp2
        go_roundw
        case rel => exact ⟨k + 1, by go_num, by omega, hy2.out, hB.out⟩
        case measure => simp [intOf]; omega
      · have k1 : decide (c < 97) = true := by simp; omega
        have k2 : decide (122 < c) = false := by simp; omega
        have k3 : decide (c < 48) = true := by simp; omega
        have k4 : decide (57 < c) = false := by simp; omega
        have k5 : (c != 45) = false := by simp; try omega
        have hch' : nameCh (chz s k) = true := by rw [← hc]; exact hch
        replace hc := Lib.hid hc; replace hch := Lib.hid hch; replace hch' := Lib.hid hch'; replace h := Lib.hid h
        have hy2 : nameTo s (k + 1) = true := by simp only [nameTo, hy.out, hch'.out, Bool.and_self]
        replace hy2 := Lib.hid hy2
        go_wp2
        go_roundw
        case rel => exact ⟨k + 1, by go_num, by omega, hy2.out, hB.out⟩
        case measure => simp [intOf]; omega
      · have k1 : decide (c < 97) = true := by simp; omega
        have k2 : decide (122 < c) = false := by simp; omega
        have k3 : decide (c < 48) = true := by simp; omega
        have k4 : decide (57 < c) = false := by simp; omega
        have k5 : (c != 45) = true := by simp; try omega
        have hno : nameCh (chz s k) = false := by rw [← hc]; exact hch
        replace hc := Lib.hid hc; replace hch := Lib.hid hch; replace hno := Lib.hid hno; replace h := Lib.hid h
        have hz : isName s = false := by unfold isName; rw [nameTo_no hk1 hno.out]; simp
        replace hz := Lib.hid hz
        go_wp2
        go_ret
        exact ⟨by rw [hz.out]; rfl, hB.out⟩
      · have k1 : decide (c < 97) = true := by simp; omega
        have k2 : decide (122 < c) = false := by simp; omega
        have k3 : decide (c < 48) = false := by simp; omega
        have k4 : decide (57 < c) = true := by simp; omega
        have k5 : (c != 45) = true := by simp; try omega
        have hno : nameCh (chz s k) = false := by rw [← hc]; exact hch
        replace hc := Lib.hid hc; replace hch := Lib.hid hch; replace hno := Lib.hid hno; replace h := Lib.hid h
        have hz : isName s = false := by unfold isName; rw [nameTo_no hk1 hno.out]; simp
        replace hz := Lib.hid hz
        go_wp2
        go_ret
        exact ⟨by rw [hz.out]; rfl, hB.out⟩
      · have k1 : decide (c < 97) = false := by simp; omega
        have k2 : decide (122 < c) = true := by simp; omega
        have k3 : decide (c < 48) = false := by simp; omega
        have k4 : decide (57 < c) = true := by simp; omega
        have k5 : (c != 45) = true := by simp; try omega
        have hno : nameCh (chz s k) = false := by rw [← hc]; exact hch
        replace hc := Lib.hid hc; replace hch := Lib.hid hch; replace hno := Lib.hid hno; replace h := Lib.hid h
        have hz : isName s = false := by unfold isName; rw [nameTo_no hk1 hno.out]; simp
        replace hz := Lib.hid hz
        go_wp2
        go_ret
        exact ⟨by rw [hz.out]; rfl, hB.out⟩
    · have hc1 : ¬ (k : Int) < s.size := by omega
      have hkn : k = s.size := by omega
      subst hkn
      have hz : isName s = (decide ((1 : Int) ≤ s.size) && decide ((s.size : Int) ≤ 16)) := by
        unfold isName; rw [hy.out, Bool.and_true]
        congr 1 <;> exact decide_eq_decide.2 (by omega)
      by_cases h1 : (1 : Int) ≤ s.size
      · have k1 : decide ((1 : Int) ≤ s.size) = true := by simpa using h1
        have k1' : decide (1 ≤ s.size) = true := decide_eq_true (by omega)
        by_cases h2 : (s.size : Int) ≤ 16
        · have k2 : decide ((s.size : Int) ≤ 16) = true := by simpa using h2
          have hzz : isName s = true := by rw [hz, k1, k2]; rfl
          replace hz := Lib.hid hz; replace hzz := Lib.hid hzz
          go_wp2
          go_ret
          exact ⟨by rw [hzz.out]; rfl, hB.out⟩
        · have k2 : decide ((s.size : Int) ≤ 16) = false := by simpa using h2
          have hzz : isName s = false := by rw [hz, k1, k2]; rfl
          replace hz := Lib.hid hz; replace hzz := Lib.hid hzz
          go_wp2
          go_ret
          exact ⟨by rw [hzz.out]; rfl, hB.out⟩
      · have k1 : decide ((1 : Int) ≤ s.size) = false := by simpa using h1
        have k1' : decide (1 ≤ s.size) = false := decide_eq_false (by omega)
        have hzz : isName s = false := by rw [hz, k1]; rfl
        replace hz := Lib.hid hz; replace hzz := Lib.hid hzz
        go_wp2
        go_ret
        exact ⟨by rw [hzz.out]; rfl, hB.out⟩

set_option maxRecDepth 100000 in
set_option maxHeartbeats 1600000 in
theorem rname_any (s : ByteArray) (w : World) (hs : s.size ≤ maxLen) : Calls Tryd.prog 20 #[.string s] w fun e w' => e = .returned (.bool (isName s)) ∧ Below w.heap.size w w' := by
  have hix : ∀ (k : Nat), k < s.size → ∀ w, (Instr.index 9 (.string s) (.int .i64 (k : Int))).run Tryd.prog w = .ok (.int .u8 (chz s k)) w := fun k hk w => index_at Tryd.underlying9 s k k rfl hk w
  replace hix := Lib.hid hix
  by_cases h1 : s.size < 1
  · have k1 : decide ((s.size : Int) < 1) = true := decide_eq_true (by omega)
    have k1' : decide (s.size < 1) = true := decide_eq_true (by omega)
    have hzz : isName s = false := by unfold isName; rw [show decide (1 ≤ s.size) = false from decide_eq_false (by omega)]; rfl
    replace hzz := Lib.hid hzz; replace hs := Lib.hid hs
    go_enter Tryd.func20, Tryd.ntmps20
    go_wp2
    go_ret
    exact ⟨by rw [hzz.out]; rfl, Below.refl _ _⟩
  have k1 : decide ((s.size : Int) < 1) = false := decide_eq_false (by omega)
  have k1' : decide (s.size < 1) = false := decide_eq_false (by omega)
  by_cases h2 : 16 < s.size
  · have k2 : decide ((16 : Int) < s.size) = true := decide_eq_true (by omega)
    have k2' : decide (16 < s.size) = true := decide_eq_true (by omega)
    have hzz : isName s = false := by unfold isName; rw [show decide (s.size ≤ 16) = false from decide_eq_false (by omega)]; simp
    replace hzz := Lib.hid hzz; replace hs := Lib.hid hs
    go_enter Tryd.func20, Tryd.ntmps20
    go_wp2
    go_ret
    exact ⟨by rw [hzz.out]; rfl, Below.refl _ _⟩
  have k2 : decide ((16 : Int) < s.size) = false := decide_eq_false (by omega)
  have k2' : decide (16 < s.size) = false := decide_eq_false (by omega)
  go_enter Tryd.func20, Tryd.ntmps20
  go_wp2
  clear k1 k1' k2 k2'
  go_loopw [3, 4] (fun i _ wr => ∃ k : Nat, i = .int .i64 k ∧ k ≤ s.size ∧ Hid (nameTo s k = true) ∧ Hid (Below w.heap.size w wr)) (fun i _ _ => s.size - (intOf i).toNat)
  case atStart => exact ⟨0, rfl, Nat.zero_le _, rfl, Below.refl _ _⟩
  case round =>
    obtain ⟨k, rfl, hk, hy, hB⟩ := hrel
    by_cases hk1 : k < s.size
    · have hc1 : (k : Int) < s.size := by omega
      have hi1 := hix.out k hk1
      obtain ⟨c, hc⟩ : ∃ c, c = chz s k := ⟨_, rfl⟩
      rw [← hc] at hi1
      have hcs := ch_cases c
      rcases hcs with ⟨hch, h | h | h⟩ | ⟨hch, h | h | h⟩
      · have k1 : decide (97 ≤ c) = true := by simp; omega
        have k2 : decide (c ≤ 122) = true := by simp; omega
        have k3 : decide (48 ≤ c) = true := by simp; omega
        have k4 : decide (c ≤ 57) = false := by simp; omega
        have k5 : (c == 45) = false := by simp; try omega
        have hch' : nameCh (chz s k) = true := by rw [← hc]; exact hch
        replace hc := Lib.hid hc; replace hch := Lib.hid hch; replace hch' := Lib.hid hch'; replace h := Lib.hid h
        have hy2 : nameTo s (k + 1) = true := by simp only [nameTo, hy.out, hch'.out, Bool.and_self]
        replace hy2 := Lib.hid hy2
        go_wp2
        go_roundw
        case rel => exact ⟨k + 1, by go_num, by omega, hy2.out, hB.out⟩
        case measure => simp [intOf]; omega
      · have k1 : decide (97 ≤ c) = false := by simp; omega
        have k2 : decide (c ≤ 122) = true := by simp; omega
        have k3 : decide (48 ≤ c) = true := by simp; omega
        have k4 : decide (c ≤ 57) = true := by simp; omega
        have k5 : (c == 45) = false := by simp; try omega
        have hch' : nameCh (chz s k) = true := by rw [← hc]; exact hch
        replace hc := Lib.hid hc; replace hch := Lib.hid hch; replace hch' := Lib.hid hch'; replace h := Lib.hid h
        have hy2 : nameTo s (k + 1) = true := by simp only [nameTo, hy.out, hch'.out, Bool.and_self]
        replace hy2 := Lib.hid hy2
        go_wp2
        go_roundw
        case rel => exact ⟨k + 1, by go_num, by omega, hy2.out, hB.out⟩
        case measure => simp [intOf]; omega
      · have k1 : decide (97 ≤ c) = false := by simp; omega
        have k2 : decide (c ≤ 122) = true := by simp; omega
        have k3 : decide (48 ≤ c) = false := by simp; omega
        have k4 : decide (c ≤ 57) = true := by simp; omega
        have k5 : (c == 45) = true := by simp; try omega
        have hch' : nameCh (chz s k) = true := by rw [← hc]; exact hch
        replace hc := Lib.hid hc; replace hch := Lib.hid hch; replace hch' := Lib.hid hch'; replace h := Lib.hid h
        have hy2 : nameTo s (k + 1) = true := by simp only [nameTo, hy.out, hch'.out, Bool.and_self]
        replace hy2 := Lib.hid hy2
        go_wp2
        go_roundw
        case rel => exact ⟨k + 1, by go_num, by omega, hy2.out, hB.out⟩
        case measure => simp [intOf]; omega
      · have k1 : decide (97 ≤ c) = false := by simp; omega
        have k2 : decide (c ≤ 122) = true := by simp; omega
        have k3 : decide (48 ≤ c) = false := by simp; omega
        have k4 : decide (c ≤ 57) = true := by simp; omega
        have k5 : (c == 45) = false := by simp; try omega
        have hno : nameCh (chz s k) = false := by rw [← hc]; exact hch
        replace hc := Lib.hid hc; replace hch := Lib.hid hch; replace hno := Lib.hid hno; replace h := Lib.hid h
        have hz : isName s = false := by unfold isName; rw [nameTo_no hk1 hno.out]; simp
        replace hz := Lib.hid hz
        go_wp2
        go_ret
        exact ⟨by rw [hz.out]; rfl, hB.out⟩
      · have k1 : decide (97 ≤ c) = false := by simp; omega
        have k2 : decide (c ≤ 122) = true := by simp; omega
        have k3 : decide (48 ≤ c) = true := by simp; omega
        have k4 : decide (c ≤ 57) = false := by simp; omega
        have k5 : (c == 45) = false := by simp; try omega
        have hno : nameCh (chz s k) = false := by rw [← hc]; exact hch
        replace hc := Lib.hid hc; replace hch := Lib.hid hch; replace hno := Lib.hid hno; replace h := Lib.hid h
        have hz : isName s = false := by unfold isName; rw [nameTo_no hk1 hno.out]; simp
        replace hz := Lib.hid hz
        go_wp2
        go_ret
        exact ⟨by rw [hz.out]; rfl, hB.out⟩
      · have k1 : decide (97 ≤ c) = true := by simp; omega
        have k2 : decide (c ≤ 122) = false := by simp; omega
        have k3 : decide (48 ≤ c) = true := by simp; omega
        have k4 : decide (c ≤ 57) = false := by simp; omega
        have k5 : (c == 45) = false := by simp; try omega
        have hno : nameCh (chz s k) = false := by rw [← hc]; exact hch
        replace hc := Lib.hid hc; replace hch := Lib.hid hch; replace hno := Lib.hid hno; replace h := Lib.hid h
        have hz : isName s = false := by unfold isName; rw [nameTo_no hk1 hno.out]; simp
        replace hz := Lib.hid hz
        go_wp2
        go_ret
        exact ⟨by rw [hz.out]; rfl, hB.out⟩
    · have hc1 : ¬ (k : Int) < s.size := by omega
      have hkn : k = s.size := by omega
      subst hkn
      have hzz : isName s = true := by unfold isName; rw [hy.out]; simp; omega
      replace hzz := Lib.hid hzz
      go_wp2
      go_ret
      exact ⟨by rw [hzz.out]; rfl, hB.out⟩
end Go.Proofs.YteoihdkaoipocaaDoor

/- Numbers in texts: vec.number, spec.number, corveeref03.Number. -/
namespace Go.Proofs.YteoihdkaoipocaaDoor
open Go.RowKit

def isDig (c : Int) : Bool := decide (48 ≤ c) && decide (c ≤ 57)
def digTo (s : ByteArray) : Nat → Bool
  | 0 => true
  | k + 1 => digTo s k && isDig (chz s k)
def numTo (s : ByteArray) : Nat → Int
  | 0 => 0
  | k + 1 => 10 * numTo s k + (chz s k - 48)
/-- the number of a text of at most so many digits; -1: none -/
def numOf (s : ByteArray) (d : Nat) : Int :=
  if s.size = 0 ∨ d < s.size ∨ (1 < s.size ∧ chz s 0 = 48) then -1 else if digTo s s.size = true then numTo s s.size else -1
theorem digTo_le {s : ByteArray} {k n : Nat} (h : digTo s n = true) (hk : k ≤ n) : digTo s k = true := by
  induction n with
  | zero => have : k = 0 := by omega
            subst this; rfl
  | succ n ih =>
    simp only [digTo, Bool.and_eq_true] at h
    by_cases c : k = n + 1
    · subst c; simp [digTo, h]
    · exact ih h.1 (by omega)
theorem digTo_no {s : ByteArray} {k : Nat} (hk : k < s.size) (h : isDig (chz s k) = false) : ¬ digTo s s.size = true := by
  intro c
  have := digTo_le c (show k + 1 ≤ s.size by omega)
  simp [digTo, h] at this
theorem isDig_iff {c : Int} : isDig c = true ↔ 48 ≤ c ∧ c ≤ 57 := by simp [isDig]
theorem numTo_bd {s : ByteArray} {k : Nat} (h : digTo s k = true) : 0 ≤ numTo s k ∧ numTo s k < 10 ^ k := by
  induction k with
  | zero => simp [numTo]
  | succ k ih =>
    simp only [digTo, Bool.and_eq_true] at h
    obtain ⟨h1, h2⟩ := ih h.1
    obtain ⟨h3, h4⟩ := isDig_iff.1 h.2
    rw [Int.pow_succ]
    simp only [numTo]
    omega
theorem numTo_13 {s : ByteArray} {k : Nat} (h : digTo s k = true) (hk : k ≤ 13) : 0 ≤ numTo s k ∧ numTo s k < 10000000000000 := by
  obtain ⟨h1, h2⟩ := numTo_bd h
  refine ⟨h1, Int.lt_of_lt_of_le h2 ?_⟩
  rcases (show k = 0 ∨ k = 1 ∨ k = 2 ∨ k = 3 ∨ k = 4 ∨ k = 5 ∨ k = 6 ∨ k = 7 ∨ k = 8 ∨ k = 9 ∨ k = 10 ∨ k = 11 ∨ k = 12 ∨ k = 13 by omega) with rfl | rfl | rfl | rfl | rfl | rfl | rfl | rfl | rfl | rfl | rfl | rfl | rfl | rfl <;> decide

set_option maxRecDepth 100000 in
set_option maxHeartbeats 3200000 in
theorem vnum_any (s : ByteArray) (w : World) (hs : s.size ≤ maxLen) : Calls Tryd.prog 137 #[.string s] w fun e w' => e = .returned (.int .i64 (numOf s 10)) ∧ Below w.heap.size w w' := by
  have hix : ∀ (k : Nat), k < s.size → ∀ w, (Instr.index 9 (.string s) (.int .i64 (k : Int))).run Tryd.prog w = .ok (.int .u8 (chz s k)) w := fun k hk w => index_at Tryd.underlying9 s k k rfl hk w
  have hsz : decide ((s.size : Int) = 0) = decide (s.size = 0) := decide_eq_decide.2 (by omega)
  by_cases h0 : s.size = 0
  · have k0 : ((s.size : Int) == 0) = true := by rw [h0]; rfl
    have k0' : decide ((s.size : Int) < 1) = true := decide_eq_true (by omega)
    have k0n : decide (s.size < 1) = true := decide_eq_true (by omega)
    have hz : numOf s 10 = -1 := by unfold numOf; rw [if_pos (.inl h0)]
    replace h0 := Lib.hid h0; replace hz := Lib.hid hz; replace hs := Lib.hid hs; replace hix := Lib.hid hix; replace hsz := Lib.hid hsz
    go_enter Tryd.func137, Tryd.ntmps137
    go_wp2
    go_ret
    exact ⟨by rw [hz.out]; rfl, Below.refl _ _⟩
  have k0 : ((s.size : Int) == 0) = false := by simp only [beq_eq_false_iff_ne]; omega
  have k0' : decide ((s.size : Int) < 1) = false := decide_eq_false (by omega)
  have k0n : decide (s.size < 1) = false := decide_eq_false (by omega)
  by_cases h1 : 10 < s.size
  · have k1 : decide ((10 : Int) < s.size) = true := decide_eq_true (by omega)
    have hz : numOf s 10 = -1 := by unfold numOf; rw [if_pos (.inr (.inl h1))]
    replace h0 := Lib.hid h0; replace hz := Lib.hid hz; replace hs := Lib.hid hs; replace hix := Lib.hid hix; replace hsz := Lib.hid hsz
    go_enter Tryd.func137, Tryd.ntmps137
    go_wp2
    go_ret
    exact ⟨by rw [hz.out]; rfl, Below.refl _ _⟩
  have k1 : decide ((10 : Int) < s.size) = false := decide_eq_false (by omega)
  have k1n : decide (10 < s.size) = false := decide_eq_false h1
  have hi0 : ∀ w, (Instr.index 9 (.string s) (.int .i64 0)).run Tryd.prog w = .ok (.int .u8 (chz s 0)) w := hix 0 (by omega)
  obtain ⟨c0, hc0⟩ : ∃ c, c = chz s 0 := ⟨_, rfl⟩
  rw [← hc0] at hi0
  by_cases h2 : 1 < s.size ∧ c0 = 48
  · have k2 : decide ((1 : Int) < s.size) = true := decide_eq_true (by omega)
    have k3 : (c0 == 48) = true := by simp [h2.2]
    have hz : numOf s 10 = -1 := by unfold numOf; rw [if_pos (.inr (.inr (by rw [← hc0]; exact h2)))]
    replace h0 := Lib.hid h0; replace h1 := Lib.hid h1; replace h2 := Lib.hid h2; replace hz := Lib.hid hz; replace hs := Lib.hid hs; replace hix := Lib.hid hix; replace hsz := Lib.hid hsz; replace hc0 := Lib.hid hc0
    go_enter Tryd.func137, Tryd.ntmps137
    go_wp2
    go_ret
    exact ⟨by rw [hz.out]; rfl, Below.refl _ _⟩
  have hsp : decide ((1 : Int) < s.size) = false ∨ (decide ((1 : Int) < s.size) = true ∧ (c0 == 48) = false) := by
    by_cases c : 1 < s.size
    · refine .inr ⟨decide_eq_true (by omega), ?_⟩
      simp only [beq_eq_false_iff_ne]; intro e; exact h2 ⟨c, e⟩
    · exact .inl (decide_eq_false (by omega))
  have hne : ¬ (s.size = 0 ∨ 10 < s.size ∨ (1 < s.size ∧ chz s 0 = 48)) := by rw [← hc0]; omega
  have h13 : s.size ≤ 13 := by omega
  have hmx : s.size ≤ 13 := by omega
  clear h2 h1 h0 hs
  replace hix := Lib.hid hix; replace hne := Lib.hid hne; replace h13 := Lib.hid h13; replace hsz := Lib.hid hsz; replace hc0 := Lib.hid hc0
  rcases hsp with k2 | ⟨k2, k3⟩
  all_goals
    go_enter Tryd.func137, Tryd.ntmps137
    go_wp2
    go_loopw [3, 4, 25] (fun n _ i wr => ∃ k : Nat, i = .int .i64 k ∧ n = .int .i64 (numTo s k) ∧ k ≤ s.size ∧ Hid (digTo s k = true) ∧ Hid (Below w.heap.size w wr)) (fun _ _ i _ => s.size - (intOf i).toNat)
    case atStart => exact ⟨0, rfl, rfl, Nat.zero_le _, rfl, Below.refl _ _⟩
    case round =>
      obtain ⟨k, rfl, rfl, hk, hy, hB⟩ := hrel
      clear k0 k0' k0n k1 k1n hi0
      try clear k3
      clear k2
      by_cases hk1 : k < s.size
      · have hc1 : (k : Int) < s.size := by omega
        have hi1 := hix.out k hk1
        obtain ⟨c, hc⟩ : ∃ c, c = chz s k := ⟨_, rfl⟩
        rw [← hc] at hi1
        by_cases hd : isDig c = true
        · obtain ⟨q1, q2⟩ := isDig_iff.1 hd
          have k1 : decide (c < 48) = false := decide_eq_false (by omega)
          have k2 : decide (57 < c) = false := decide_eq_false (by omega)
          have hy2 : digTo s (k + 1) = true := by simp only [digTo, hy.out, ← hc, hd, Bool.and_self]
          obtain ⟨n, hn⟩ : ∃ n, n = numTo s k := ⟨_, rfl⟩
          rw [← hn]
          have hbd := numTo_13 hy.out (by have := h13.out; omega)
          rw [← hn] at hbd
          have ew1 : IntKind.i64.wrap (n * 10) = n * 10 := IntWalk.i64_in _ (by omega)
          have ew1' : IntKind.i64.wrap (10 * n) = 10 * n := IntWalk.i64_in _ (by omega)
          have ew2 : IntKind.u8.wrap (c - 48) = c - 48 := IntWalk.u8_in _ (by omega)
          have ew3 : IntKind.i64.wrap (c - 48) = c - 48 := IntWalk.i64_in _ (by omega)
          have ew4 : IntKind.i64.wrap (n * 10 + (c - 48)) = n * 10 + (c - 48) := IntWalk.i64_in _ (by omega)
          have ew4' : IntKind.i64.wrap (10 * n + (c - 48)) = 10 * n + (c - 48) := IntWalk.i64_in _ (by omega)
          have hn2 : numTo s (k + 1) = 10 * n + (c - 48) := by simp only [numTo, ← hn, ← hc]
          replace hc := Lib.hid hc; replace hd := Lib.hid hd; replace q1 := Lib.hid q1; replace q2 := Lib.hid q2; replace hy2 := Lib.hid hy2; replace hn := Lib.hid hn; replace hbd := Lib.hid hbd; replace hn2 := Lib.hid hn2
          go_wp2
          go_roundw
          case rel => exact ⟨k + 1, by go_num, by first | rfl | (rw [hn2.out]; done) | (rw [hn2.out]; go_num) | (rw [hn2.out]; congr 1; omega) | (rw [hn2.out]; congr 1), by omega, hy2.out, hB.out⟩
          case measure => simp [intOf]; omega
        · have hno : isDig (chz s k) = false := by rw [← hc]; simpa using hd
          have hz : numOf s 10 = -1 := by unfold numOf; rw [if_neg hne.out, if_neg (digTo_no hk1 hno)]
          have hdd : c < 48 ∨ 57 < c := by
            apply Classical.byContradiction; intro q
            exact hd (isDig_iff.2 (by omega))
          replace hc := Lib.hid hc; replace hd := Lib.hid hd; replace hno := Lib.hid hno; replace hz := Lib.hid hz
          rcases hdd with q | q
          · have k1 : decide (c < 48) = true := decide_eq_true q
            go_wp2
            go_ret
            exact ⟨by rw [hz.out]; rfl, hB.out⟩
          · have k1 : decide (c < 48) = false := decide_eq_false (by omega)
            have k2 : decide (57 < c) = true := decide_eq_true q
            go_wp2
            go_ret
            exact ⟨by rw [hz.out]; rfl, hB.out⟩
      · have hc1 : ¬ (k : Int) < s.size := by omega
        have hkn : k = s.size := by omega
        subst hkn
        have hz : numOf s 10 = numTo s s.size := by unfold numOf; rw [if_neg hne.out, if_pos hy.out]
        replace hz := Lib.hid hz
        go_wp2
        go_ret
        exact ⟨by rw [hz.out]; rfl, hB.out⟩
set_option maxRecDepth 100000 in
set_option maxHeartbeats 3200000 in
theorem snum_any (s : ByteArray) (w : World) (hs : s.size ≤ maxLen) : Calls Tryd.prog 140 #[.string s] w fun e w' => e = .returned (.int .i64 (numOf s 13)) ∧ Below w.heap.size w w' := by
  have hix : ∀ (k : Nat), k < s.size → ∀ w, (Instr.index 9 (.string s) (.int .i64 (k : Int))).run Tryd.prog w = .ok (.int .u8 (chz s k)) w := fun k hk w => index_at Tryd.underlying9 s k k rfl hk w
  have hsz : decide ((s.size : Int) = 0) = decide (s.size = 0) := decide_eq_decide.2 (by omega)
  by_cases h0 : s.size = 0
  · have k0 : ((s.size : Int) == 0) = true := by rw [h0]; rfl
    have k0' : decide ((s.size : Int) < 1) = true := decide_eq_true (by omega)
    have k0n : decide (s.size < 1) = true := decide_eq_true (by omega)
    have hz : numOf s 13 = -1 := by unfold numOf; rw [if_pos (.inl h0)]
    replace h0 := Lib.hid h0; replace hz := Lib.hid hz; replace hs := Lib.hid hs; replace hix := Lib.hid hix; replace hsz := Lib.hid hsz
    go_enter Tryd.func140, Tryd.ntmps140
    go_wp2
    go_ret
    exact ⟨by rw [hz.out]; rfl, Below.refl _ _⟩
  have k0 : ((s.size : Int) == 0) = false := by simp only [beq_eq_false_iff_ne]; omega
  have k0' : decide ((s.size : Int) < 1) = false := decide_eq_false (by omega)
  have k0n : decide (s.size < 1) = false := decide_eq_false (by omega)
  by_cases h1 : 13 < s.size
  · have k1 : decide ((13 : Int) < s.size) = true := decide_eq_true (by omega)
    have hz : numOf s 13 = -1 := by unfold numOf; rw [if_pos (.inr (.inl h1))]
    replace h0 := Lib.hid h0; replace hz := Lib.hid hz; replace hs := Lib.hid hs; replace hix := Lib.hid hix; replace hsz := Lib.hid hsz
    go_enter Tryd.func140, Tryd.ntmps140
    go_wp2
    go_ret
    exact ⟨by rw [hz.out]; rfl, Below.refl _ _⟩
  have k1 : decide ((13 : Int) < s.size) = false := decide_eq_false (by omega)
  have k1n : decide (13 < s.size) = false := decide_eq_false h1
  have hi0 : ∀ w, (Instr.index 9 (.string s) (.int .i64 0)).run Tryd.prog w = .ok (.int .u8 (chz s 0)) w := hix 0 (by omega)
  obtain ⟨c0, hc0⟩ : ∃ c, c = chz s 0 := ⟨_, rfl⟩
  rw [← hc0] at hi0
  by_cases h2 : 1 < s.size ∧ c0 = 48
  · have k2 : decide ((1 : Int) < s.size) = true := decide_eq_true (by omega)
    have k3 : (c0 == 48) = true := by simp [h2.2]
    have hz : numOf s 13 = -1 := by unfold numOf; rw [if_pos (.inr (.inr (by rw [← hc0]; exact h2)))]
    replace h0 := Lib.hid h0; replace h1 := Lib.hid h1; replace h2 := Lib.hid h2; replace hz := Lib.hid hz; replace hs := Lib.hid hs; replace hix := Lib.hid hix; replace hsz := Lib.hid hsz; replace hc0 := Lib.hid hc0
    go_enter Tryd.func140, Tryd.ntmps140
    go_wp2
    go_ret
    exact ⟨by rw [hz.out]; rfl, Below.refl _ _⟩
  have hsp : decide ((1 : Int) < s.size) = false ∨ (decide ((1 : Int) < s.size) = true ∧ (c0 == 48) = false) := by
    by_cases c : 1 < s.size
    · refine .inr ⟨decide_eq_true (by omega), ?_⟩
      simp only [beq_eq_false_iff_ne]; intro e; exact h2 ⟨c, e⟩
    · exact .inl (decide_eq_false (by omega))
  have hne : ¬ (s.size = 0 ∨ 13 < s.size ∨ (1 < s.size ∧ chz s 0 = 48)) := by rw [← hc0]; omega
  have h13 : s.size ≤ 13 := by omega
  have hmx : s.size ≤ 13 := by omega
  clear h2 h1 h0 hs
  replace hix := Lib.hid hix; replace hne := Lib.hid hne; replace h13 := Lib.hid h13; replace hsz := Lib.hid hsz; replace hc0 := Lib.hid hc0
  rcases hsp with k2 | ⟨k2, k3⟩
  all_goals
    go_enter Tryd.func140, Tryd.ntmps140
    go_wp2
    go_loopw [3, 4, 25] (fun n _ i wr => ∃ k : Nat, i = .int .i64 k ∧ n = .int .i64 (numTo s k) ∧ k ≤ s.size ∧ Hid (digTo s k = true) ∧ Hid (Below w.heap.size w wr)) (fun _ _ i _ => s.size - (intOf i).toNat)
    case atStart => exact ⟨0, rfl, rfl, Nat.zero_le _, rfl, Below.refl _ _⟩
    case round =>
      obtain ⟨k, rfl, rfl, hk, hy, hB⟩ := hrel
      clear k0 k0' k0n k1 k1n hi0
      try clear k3
      clear k2
      by_cases hk1 : k < s.size
      · have hc1 : (k : Int) < s.size := by omega
        have hi1 := hix.out k hk1
        obtain ⟨c, hc⟩ : ∃ c, c = chz s k := ⟨_, rfl⟩
        rw [← hc] at hi1
        by_cases hd : isDig c = true
        · obtain ⟨q1, q2⟩ := isDig_iff.1 hd
          have k1 : decide (c < 48) = false := decide_eq_false (by omega)
          have k2 : decide (57 < c) = false := decide_eq_false (by omega)
          have hy2 : digTo s (k + 1) = true := by simp only [digTo, hy.out, ← hc, hd, Bool.and_self]
          obtain ⟨n, hn⟩ : ∃ n, n = numTo s k := ⟨_, rfl⟩
          rw [← hn]
          have hbd := numTo_13 hy.out (by have := h13.out; omega)
          rw [← hn] at hbd
          have ew1 : IntKind.i64.wrap (n * 10) = n * 10 := IntWalk.i64_in _ (by omega)
          have ew1' : IntKind.i64.wrap (10 * n) = 10 * n := IntWalk.i64_in _ (by omega)
          have ew2 : IntKind.u8.wrap (c - 48) = c - 48 := IntWalk.u8_in _ (by omega)
          have ew3 : IntKind.i64.wrap (c - 48) = c - 48 := IntWalk.i64_in _ (by omega)
          have ew4 : IntKind.i64.wrap (n * 10 + (c - 48)) = n * 10 + (c - 48) := IntWalk.i64_in _ (by omega)
          have ew4' : IntKind.i64.wrap (10 * n + (c - 48)) = 10 * n + (c - 48) := IntWalk.i64_in _ (by omega)
          have hn2 : numTo s (k + 1) = 10 * n + (c - 48) := by simp only [numTo, ← hn, ← hc]
          replace hc := Lib.hid hc; replace hd := Lib.hid hd; replace q1 := Lib.hid q1; replace q2 := Lib.hid q2; replace hy2 := Lib.hid hy2; replace hn := Lib.hid hn; replace hbd := Lib.hid hbd; replace hn2 := Lib.hid hn2
          go_wp2
          go_roundw
          case rel => exact ⟨k + 1, by go_num, by first | rfl | (rw [hn2.out]; done) | (rw [hn2.out]; go_num) | (rw [hn2.out]; congr 1; omega) | (rw [hn2.out]; congr 1), by omega, hy2.out, hB.out⟩
          case measure => simp [intOf]; omega
        · have hno : isDig (chz s k) = false := by rw [← hc]; simpa using hd
          have hz : numOf s 13 = -1 := by unfold numOf; rw [if_neg hne.out, if_neg (digTo_no hk1 hno)]
          have hdd : c < 48 ∨ 57 < c := by
            apply Classical.byContradiction; intro q
            exact hd (isDig_iff.2 (by omega))
          replace hc := Lib.hid hc; replace hd := Lib.hid hd; replace hno := Lib.hid hno; replace hz := Lib.hid hz
          rcases hdd with q | q
          · have k1 : decide (c < 48) = true := decide_eq_true q
            go_wp2
            go_ret
            exact ⟨by rw [hz.out]; rfl, hB.out⟩
          · have k1 : decide (c < 48) = false := decide_eq_false (by omega)
            have k2 : decide (57 < c) = true := decide_eq_true q
            go_wp2
            go_ret
            exact ⟨by rw [hz.out]; rfl, hB.out⟩
      · have hc1 : ¬ (k : Int) < s.size := by omega
        have hkn : k = s.size := by omega
        subst hkn
        have hz : numOf s 13 = numTo s s.size := by unfold numOf; rw [if_neg hne.out, if_pos hy.out]
        replace hz := Lib.hid hz
        go_wp2
        go_ret
        exact ⟨by rw [hz.out]; rfl, hB.out⟩
set_option maxRecDepth 100000 in
set_option maxHeartbeats 3200000 in
theorem rnum_any (s : ByteArray) (d : Nat) (w : World) (hs : s.size ≤ maxLen) (hd13 : d ≤ 13) : Calls Tryd.prog 143 #[.string s, .int .i64 (d : Int)] w fun e w' => e = .returned (.int .i64 (numOf s d)) ∧ Below w.heap.size w w' := by
  have hix : ∀ (k : Nat), k < s.size → ∀ w, (Instr.index 9 (.string s) (.int .i64 (k : Int))).run Tryd.prog w = .ok (.int .u8 (chz s k)) w := fun k hk w => index_at Tryd.underlying9 s k k rfl hk w
  have hsz : decide ((s.size : Int) = 0) = decide (s.size = 0) := decide_eq_decide.2 (by omega)
  by_cases h0 : s.size = 0
  · have k0 : ((s.size : Int) == 0) = true := by rw [h0]; rfl
    have k0' : decide ((s.size : Int) < 1) = true := decide_eq_true (by omega)
    have k0n : decide (s.size < 1) = true := decide_eq_true (by omega)
    have hz : numOf s d = -1 := by unfold numOf; rw [if_pos (.inl h0)]
    replace h0 := Lib.hid h0; replace hz := Lib.hid hz; replace hs := Lib.hid hs; replace hix := Lib.hid hix; replace hsz := Lib.hid hsz
    go_enter Tryd.func143, Tryd.ntmps143
    go_wp2
    go_ret
    exact ⟨by rw [hz.out]; rfl, Below.refl _ _⟩
  have k0 : ((s.size : Int) == 0) = false := by simp only [beq_eq_false_iff_ne]; omega
  have k0' : decide ((s.size : Int) < 1) = false := decide_eq_false (by omega)
  have k0n : decide (s.size < 1) = false := decide_eq_false (by omega)
  by_cases h1 : d < s.size
  · have k1 : decide ((d : Int) < s.size) = true := decide_eq_true (by omega)
    have hz : numOf s d = -1 := by unfold numOf; rw [if_pos (.inr (.inl h1))]
    replace h0 := Lib.hid h0; replace hz := Lib.hid hz; replace hs := Lib.hid hs; replace hix := Lib.hid hix; replace hsz := Lib.hid hsz
    go_enter Tryd.func143, Tryd.ntmps143
    go_wp2
    go_ret
    exact ⟨by rw [hz.out]; rfl, Below.refl _ _⟩
  have k1 : decide ((d : Int) < s.size) = false := decide_eq_false (by omega)
  have k1n : decide (d < s.size) = false := decide_eq_false h1
  have hi0 : ∀ w, (Instr.index 9 (.string s) (.int .i64 0)).run Tryd.prog w = .ok (.int .u8 (chz s 0)) w := hix 0 (by omega)
  obtain ⟨c0, hc0⟩ : ∃ c, c = chz s 0 := ⟨_, rfl⟩
  rw [← hc0] at hi0
  by_cases h2 : 1 < s.size ∧ c0 = 48
  · have k2 : decide ((1 : Int) < s.size) = true := decide_eq_true (by omega)
    have k3 : (c0 == 48) = true := by simp [h2.2]
    have hz : numOf s d = -1 := by unfold numOf; rw [if_pos (.inr (.inr (by rw [← hc0]; exact h2)))]
    replace h0 := Lib.hid h0; replace h1 := Lib.hid h1; replace h2 := Lib.hid h2; replace hz := Lib.hid hz; replace hs := Lib.hid hs; replace hix := Lib.hid hix; replace hsz := Lib.hid hsz; replace hc0 := Lib.hid hc0
    go_enter Tryd.func143, Tryd.ntmps143
    go_wp2
    go_ret
    exact ⟨by rw [hz.out]; rfl, Below.refl _ _⟩
  have hsp : decide ((1 : Int) < s.size) = false ∨ (decide ((1 : Int) < s.size) = true ∧ (c0 == 48) = false) := by
    by_cases c : 1 < s.size
    · refine .inr ⟨decide_eq_true (by omega), ?_⟩
      simp only [beq_eq_false_iff_ne]; intro e; exact h2 ⟨c, e⟩
    · exact .inl (decide_eq_false (by omega))
  have hne : ¬ (s.size = 0 ∨ d < s.size ∨ (1 < s.size ∧ chz s 0 = 48)) := by rw [← hc0]; omega
  have h13 : s.size ≤ 13 := by omega
  have hmx : s.size ≤ 13 := by omega
  clear h2 h1 h0 hs
  replace hix := Lib.hid hix; replace hne := Lib.hid hne; replace h13 := Lib.hid h13; replace hsz := Lib.hid hsz; replace hc0 := Lib.hid hc0
  rcases hsp with k2 | ⟨k2, k3⟩
  all_goals
    go_enter Tryd.func143, Tryd.ntmps143
    go_wp2
    go_loopw [5, 6] (fun n i wr => ∃ k : Nat, i = .int .i64 k ∧ n = .int .i64 (numTo s k) ∧ k ≤ s.size ∧ Hid (digTo s k = true) ∧ Hid (Below w.heap.size w wr)) (fun _ i _ => s.size - (intOf i).toNat)
    case atStart => exact ⟨0, rfl, rfl, Nat.zero_le _, rfl, Below.refl _ _⟩
    case round =>
      obtain ⟨k, rfl, rfl, hk, hy, hB⟩ := hrel
      clear k0 k0' k0n k1 k1n hi0
      try clear k3
      clear k2
      by_cases hk1 : k < s.size
      · have hc1 : (k : Int) < s.size := by omega
        have hi1 := hix.out k hk1
        obtain ⟨c, hc⟩ : ∃ c, c = chz s k := ⟨_, rfl⟩
        rw [← hc] at hi1
        by_cases hd : isDig c = true
        · obtain ⟨q1, q2⟩ := isDig_iff.1 hd
          have k1 : decide (c < 48) = false := decide_eq_false (by omega)
          have k2 : decide (57 < c) = false := decide_eq_false (by omega)
          have hy2 : digTo s (k + 1) = true := by simp only [digTo, hy.out, ← hc, hd, Bool.and_self]
          obtain ⟨n, hn⟩ : ∃ n, n = numTo s k := ⟨_, rfl⟩
          rw [← hn]
          have hbd := numTo_13 hy.out (by have := h13.out; omega)
          rw [← hn] at hbd
          have ew1 : IntKind.i64.wrap (n * 10) = n * 10 := IntWalk.i64_in _ (by omega)
          have ew1' : IntKind.i64.wrap (10 * n) = 10 * n := IntWalk.i64_in _ (by omega)
          have ew2 : IntKind.u8.wrap (c - 48) = c - 48 := IntWalk.u8_in _ (by omega)
          have ew3 : IntKind.i64.wrap (c - 48) = c - 48 := IntWalk.i64_in _ (by omega)
          have ew4 : IntKind.i64.wrap (n * 10 + (c - 48)) = n * 10 + (c - 48) := IntWalk.i64_in _ (by omega)
          have ew4' : IntKind.i64.wrap (10 * n + (c - 48)) = 10 * n + (c - 48) := IntWalk.i64_in _ (by omega)
          have hn2 : numTo s (k + 1) = 10 * n + (c - 48) := by simp only [numTo, ← hn, ← hc]
          replace hc := Lib.hid hc; replace hd := Lib.hid hd; replace q1 := Lib.hid q1; replace q2 := Lib.hid q2; replace hy2 := Lib.hid hy2; replace hn := Lib.hid hn; replace hbd := Lib.hid hbd; replace hn2 := Lib.hid hn2
          go_wp2
          go_roundw
          case rel => exact ⟨k + 1, by go_num, by first | rfl | (rw [hn2.out]; done) | (rw [hn2.out]; go_num) | (rw [hn2.out]; congr 1; omega) | (rw [hn2.out]; congr 1), by omega, hy2.out, hB.out⟩
          case measure => simp [intOf]; omega
        · have hno : isDig (chz s k) = false := by rw [← hc]; simpa using hd
          have hz : numOf s d = -1 := by unfold numOf; rw [if_neg hne.out, if_neg (digTo_no hk1 hno)]
          have hdd : c < 48 ∨ 57 < c := by
            apply Classical.byContradiction; intro q
            exact hd (isDig_iff.2 (by omega))
          replace hc := Lib.hid hc; replace hd := Lib.hid hd; replace hno := Lib.hid hno; replace hz := Lib.hid hz
          rcases hdd with q | q
          · have k1 : decide (c < 48) = true := decide_eq_true q
            go_wp2
            go_ret
            exact ⟨by rw [hz.out]; rfl, hB.out⟩
          · have k1 : decide (c < 48) = false := decide_eq_false (by omega)
            have k2 : decide (57 < c) = true := decide_eq_true q
            go_wp2
            go_ret
            exact ⟨by rw [hz.out]; rfl, hB.out⟩
      · have hc1 : ¬ (k : Int) < s.size := by omega
        have hkn : k = s.size := by omega
        subst hkn
        have hz : numOf s d = numTo s s.size := by unfold numOf; rw [if_neg hne.out, if_pos hy.out]
        replace hz := Lib.hid hz
        go_wp2
        go_ret
        exact ⟨by rw [hz.out]; rfl, hB.out⟩
end Go.Proofs.YteoihdkaoipocaaDoor

/- The pieces of a text between signs: what the library's Cut and Split tell, by one plain function. Plain theorems: no condition. -/
namespace Go.Proofs.YteoihdkaoipocaaDoor
open Go.RowKit

def ofL (l : List UInt8) : ByteArray := ⟨l.toArray⟩
theorem ofL_toL (l : List UInt8) : (ofL l).data.toList = l := by simp [ofL]
theorem ofL_of (s : ByteArray) : ofL s.data.toList = s := rfl
theorem ofL_inj {a b : List UInt8} (h : ofL a = ofL b) : a = b := by rw [← ofL_toL a, h, ofL_toL]
theorem ofL_size (l : List UInt8) : (ofL l).size = l.length := rfl
theorem toL_inj {a b : ByteArray} (h : a.data.toList = b.data.toList) : a = b := by rw [← ofL_of a, h, ofL_of]
theorem toL_len (s : ByteArray) : s.data.toList.length = s.size := rfl

/-- a text's pieces between signs -/
def cutAll (x : UInt8) : List UInt8 → List (List UInt8)
  | [] => [[]]
  | b :: l => if b = x then [] :: cutAll x l else (b :: (cutAll x l).headD []) :: (cutAll x l).tail
theorem cutAll_ne (x : UInt8) (l : List UInt8) : cutAll x l ≠ [] := by
  cases l with
  | nil => simp [cutAll]
  | cons b l => unfold cutAll; split <;> simp
theorem cutAll_no {x : UInt8} {l : List UInt8} (h : x ∉ l) : cutAll x l = [l] := by
  induction l with
  | nil => rfl
  | cons b l ih =>
    have h1 : ¬ b = x := fun e => h (by rw [e]; exact List.mem_cons_self ..)
    have h2 := ih (fun e => h (List.mem_cons_of_mem _ e))
    unfold cutAll
    rw [if_neg h1, h2]; rfl
theorem cutAll_hit {x : UInt8} {a r : List UInt8} (h : x ∉ a) : cutAll x (a ++ x :: r) = a :: cutAll x r := by
  induction a with
  | nil => show cutAll x (x :: r) = _; rw [cutAll, if_pos rfl]
  | cons b a ih =>
    have h1 : ¬ b = x := fun e => h (by rw [e]; exact List.mem_cons_self ..)
    have h2 := ih (fun e => h (List.mem_cons_of_mem _ e))
    show cutAll x (b :: (a ++ x :: r)) = _
    rw [cutAll, if_neg h1, h2]; rfl
theorem first_of (x : UInt8) (l : List UInt8) : x ∉ l ∨ ∃ a r, l = a ++ x :: r ∧ x ∉ a := by
  induction l with
  | nil => exact .inl (by simp)
  | cons b l ih =>
    by_cases e : b = x
    · exact .inr ⟨[], l, by rw [e]; rfl, by simp⟩
    · rcases ih with h | ⟨a, r, h1, h2⟩
      · exact .inl (by simp [h]; exact fun c => e c.symm)
      · exact .inr ⟨b :: a, r, by rw [h1]; rfl, by simp [h2]; exact fun c => e c.symm⟩

theorem index_no {x : UInt8} {l : List UInt8} (h : x ∉ l) : Lib.index l [x] = -1 := by
  induction l with
  | nil => rfl
  | cons b l ih =>
    have h1 : ¬ x = b := fun e => h (by rw [e]; exact List.mem_cons_self ..)
    have h2 := ih (fun e => h (List.mem_cons_of_mem _ e))
    unfold Lib.index
    have e : [x].isPrefixOf (b :: l) = false := by simp [List.isPrefixOf, h1]
    rw [e, h2]; rfl
theorem index_hit {x : UInt8} {a r : List UInt8} (h : x ∉ a) : Lib.index (a ++ x :: r) [x] = a.length := by
  induction a with
  | nil =>
    show Lib.index (x :: r) [x] = _
    unfold Lib.index
    have e : [x].isPrefixOf (x :: r) = true := by simp [List.isPrefixOf]
    rw [e]; rfl
  | cons b a ih =>
    have h1 : ¬ x = b := fun e => h (by rw [e]; exact List.mem_cons_self ..)
    have h2 := ih (fun e => h (List.mem_cons_of_mem _ e))
    show Lib.index (b :: (a ++ x :: r)) [x] = _
    unfold Lib.index
    have e : [x].isPrefixOf (b :: (a ++ x :: r)) = false := by simp [List.isPrefixOf, h1]
    rw [e, h2]
    have e2 : ((a.length : Int) == -1) = false := by simp only [beq_eq_false_iff_ne]; omega
    simp [e2]
theorem cut_no {x : UInt8} {l : List UInt8} (h : x ∉ l) : Lib.cut l [x] = (l, [], false) := by
  unfold Lib.cut; rw [index_no h]; rfl
theorem cut_hit {x : UInt8} {a r : List UInt8} (h : x ∉ a) : Lib.cut (a ++ x :: r) [x] = (a, r, true) := by
  unfold Lib.cut
  rw [index_hit h, if_pos (by omega)]
  simp

theorem splitB_cutAll (x : UInt8) : ∀ (n : Nat) (s : ByteArray), s.size ≤ n → Lib.splitB (ofL [x]) 0 (Lib.countB s (ofL [x])) s = (cutAll x s.data.toList).map ofL ∧ Lib.countB s (ofL [x]) + 1 = (cutAll x s.data.toList).length := by
  intro n
  induction n with
  | zero =>
    intro s hs
    have h0 : s.data.toList = [] := List.length_eq_zero_iff.1 (by rw [toL_len]; omega)
    have hi : Lib.indexB s (ofL [x]) = -1 := by show Lib.index s.data.toList [x] = -1; exact index_no (by rw [h0]; simp)
    rw [Lib.countB_miss s _ hi, Lib.splitB_zero, h0]
    exact ⟨by rw [← ofL_of s, h0]; rfl, rfl⟩
  | succ n ih =>
    intro s hs
    rcases first_of x s.data.toList with h | ⟨a, r, h1, h2⟩
    · have hi : Lib.indexB s (ofL [x]) = -1 := by show Lib.index s.data.toList [x] = -1; exact index_no h
      rw [Lib.countB_miss s _ hi, Lib.splitB_zero, cutAll_no h]
      exact ⟨rfl, rfl⟩
    · have hi : Lib.indexB s (ofL [x]) = (a.length : Nat) := by show Lib.index s.data.toList [x] = _; rw [h1]; exact index_hit h2
      have hr : s.extract (a.length + (ofL [x]).size) s.size = ofL r := toL_inj (by
        rw [Lib.extract_to_end, ofL_toL, h1, ofL_size]
        show List.drop (a.length + 1) (a ++ x :: r) = r
        rw [List.drop_append]; simp)
      have ha : s.extract 0 (a.length + 0) = ofL a := toL_inj (by rw [Lib.extract_from_zero, ofL_toL, h1]; simp)
      have hl : (ofL r).size ≤ n := by
        have : s.data.toList.length = a.length + (r.length + 1) := by rw [h1]; simp
        rw [toL_len] at this
        rw [ofL_size]; omega
      obtain ⟨i1, i2⟩ := ih (ofL r) hl
      rw [ofL_toL] at i1 i2
      have hc := Lib.countB_hit s (ofL [x]) a.length (Nat.le_refl _) hi
      rw [hr] at hc
      rw [hc, Nat.add_comm 1, Lib.splitB_hit _ _ _ _ _ hi, hr, ha, i1, h1, cutAll_hit h2]
      exact ⟨rfl, by simp [← i2]⟩

/-- the library's variable that the search reads holds a number -/
def Mx (w : World) : Prop := ∃ m, w.cell? ⟨0, 0, none⟩ = some (.int .i64 m)
theorem Mx.pos {w : World} (h : Mx w) : 0 < w.heap.size := by
  obtain ⟨m, h⟩ := h
  simp only [World.cell?] at h
  cases hx : w.heap[0]? with
  | none => simp [hx] at h
  | some o => exact (Array.getElem?_eq_some_iff.1 hx).1
theorem Mx.below {w w' : World} {B : Nat} (h : Mx w) (hb : Below B w w') (hB : 0 < B) : Mx w' := by
  obtain ⟨m, h⟩ := h
  exact ⟨m, (below_cell hb hB).trans h⟩
theorem Mx.low {w w' : World} (h : Mx w) (hb : Below w.heap.size w w') : Mx w' := h.below hb h.pos
theorem Mx.of_shape {w : World} (h : w.ShapedOpen Tryd.prog) : Mx w := Tryd.laysM145.s1_3 w h
theorem cut_call (s : ByteArray) (x : UInt8) (w : World) (h : Mx w) (hs : s.size < 4294967281) :
    Calls Tryd.prog 63 #[.string s, .string (ofL [x])] w fun e w' => (∃ a r b, e = .returned (.tuple #[.string (ofL a), .string (ofL r), .bool b]) ∧ ((b = false ∧ a = s.data.toList ∧ r = [] ∧ x ∉ a) ∨ (b = true ∧ s.data.toList = a ++ x :: r ∧ x ∉ a))) ∧ ∃ n, w' = w.drewN n := by
  obtain ⟨m, hm⟩ := h
  refine (Tryd.strings_Cut s (ofL [x]) m w hs hm).mono fun e w' ⟨he, hn⟩ => ?_
  refine ⟨?_, hn⟩
  rw [ofL_toL] at he
  rcases first_of x s.data.toList with hc | ⟨a, r, h1, h2⟩
  · rw [cut_no hc] at he
    exact ⟨s.data.toList, [], false, he, .inl ⟨rfl, rfl, rfl, hc⟩⟩
  · rw [h1, cut_hit h2] at he
    exact ⟨a, r, true, he, .inr ⟨rfl, h1, h2⟩⟩
theorem split_call (s : ByteArray) (x : UInt8) (w : World) (h : Mx w) (hs : s.size < 4294967281) :
    Calls Tryd.prog 62 #[.string s, .string (ofL [x])] w fun e w' => e = .returned (.slice (some ⟨w.heap.size, 0, none⟩) (cutAll x s.data.toList).length (cutAll x s.data.toList).length) ∧ w' = w.alloc (.cells (((cutAll x s.data.toList).map ofL).map Value.string).toArray 9) := by
  obtain ⟨m, hm⟩ := h
  refine (Tryd.strings_Split s (ofL [x]) m w hs hm (Nat.le_refl _)).mono fun e w' ⟨he, hn⟩ => ?_
  obtain ⟨i1, i2⟩ := splitB_cutAll x s.size s (Nat.le_refl _)
  rw [i2] at he
  rw [i1] at hn
  exact ⟨he, hn⟩
end Go.Proofs.YteoihdkaoipocaaDoor

/- vec.Read: the amount of a text. -/
namespace Go.Proofs.YteoihdkaoipocaaDoor
open Go.RowKit

def pnum (ps : List (List UInt8)) (j : Nat) : Int := numOf (ofL (ps.getD j [])) 10
/-- the four numbers of a text's pieces -/
def vecP (ps : List (List UInt8)) : V4 := ⟨pnum ps 0, pnum ps 1, pnum ps 2, pnum ps 3⟩
/-- what is read: the amount, and the error -/
def vecOf (s : ByteArray) : V4 × Int := if (cutAll 44 s.data.toList).length = 4 then (vecP (cutAll 44 s.data.toList)).told 11 else (V4.zero, 11)
theorem vecOf_no {s : ByteArray} (h : (cutAll 44 s.data.toList).length ≠ 4) : vecOf s = (V4.zero, 11) := if_neg h
theorem getD_app {α : Type} (a : List α) (x : α) (b : List α) (d : α) (k : Nat) (hk : a.length = k) : (a ++ x :: b).getD k d = x := by
  subst hk; simp [List.getD]
theorem getD_old {α : Type} (a b : List α) (d : α) {j : Nat} (hj : j < a.length) : (a ++ b).getD j d = a.getD j d := by
  simp [List.getD, List.getElem?_append_left hj]
structure VrW (w : World) (s0 : ByteArray) (k : Nat) (done : List (List UInt8)) (rest : List UInt8) (f : Nat → Int) (wr : World) : Prop where
  low : Below w.heap.size w wr
  mx : Mx wr
  res : wr.heap[w.heap.size]? = some (.cells V4.zero.cells 25 (0, 0))
  arr : wr.heap[w.heap.size + 1]? = some (.cells #[.int .i64 (f 0), .int .i64 (f 1), .int .i64 (f 2), .int .i64 (f 3)] 25 (0, 0))
  val : ∀ j, j < k → f j = pnum done j
  len : done.length = k
  cut : if k < 4 then cutAll 44 s0.data.toList = done ++ cutAll 44 rest else cutAll 44 s0.data.toList = done
  rlen : rest.length ≤ s0.size
theorem cutAll_pos (x : UInt8) (l : List UInt8) : 1 ≤ (cutAll x l).length := by
  cases h : cutAll x l with
  | nil => exact absurd h (cutAll_ne _ _)
  | cons p ps => simp

theorem below_dn (B : Nat) (w : World) (n : Nat) : Below B w (w.drewN n) := ⟨rfl, rfl, rfl, Nat.le_refl _, fun _ _ => rfl⟩
theorem below_drewT {w w' : World} {n : Nat} (h : Below (w.drewN n).heap.size (w.drewN n) w') : Below w.heap.size w w' := (below_dn _ _ _).trans h

set_option maxRecDepth 100000 in
set_option maxHeartbeats 3200000 in
theorem vread_any (s0 : ByteArray) (w : World) (hm : Mx w) (hs : s0.size ≤ 4294967280) : Calls Tryd.prog 105 #[.string s0] w fun e w' => e = .returned (.tuple #[(vecOf s0).1.val, .int .i64 (vecOf s0).2]) ∧ Below w.heap.size w w' := by
  have hpos := hm.pos
  have h0 : VrW w s0 0 [] s0.data.toList (fun _ => 0) ((w.alloc (.cells V4.zero.cells 25 (0, 0))).alloc (.cells V4.zero.cells 25 (0, 0))) :=
    ⟨((Below.refl _ _).alloc (Nat.le_refl _) _).alloc (by simp) _, hm.low (((Below.refl _ _).alloc (Nat.le_refl _) _).alloc (by simp) _), blk_old _ (blk_new _ _), blk_at _ _ (by simp), fun j hj => absurd hj (Nat.not_lt_zero _), rfl, by simp, Nat.le_refl _⟩
  replace h0 := Lib.hid h0; replace hm := Lib.hid hm; replace hpos := Lib.hid hpos
  go_enter Tryd.func105, Tryd.ntmps105
  go_wp2
  go_loopw [0, 5, 6, 7, 8, 9] (fun sv _ _ _ _ i wr => ∃ (k : Nat) (done : List (List UInt8)) (rest : List UInt8) (f : Nat → Int), k ≤ 4 ∧ i = .int .i64 k ∧ sv = .string (ofL rest) ∧ Hid (VrW w s0 k done rest f wr)) (fun _ _ _ _ _ i _ => 4 - (intOf i).toNat)
  case atStart => exact ⟨0, [], s0.data.toList, fun _ => 0, by omega, rfl, rfl, h0.out⟩
  case round =>
    obtain ⟨k, done, rest, f, hk, rfl, rfl, hV⟩ := hrel
    by_cases h4 : k < 4
    · have hi : (k : Int) < 4 := by omega
      have hct := cut_call (ofL rest) 44 wr hV.out.mx (by rw [ofL_size]; have := hV.out.rlen; omega)
      rw [ofL_toL] at hct
      have hcV := hV.out.cut
      rw [if_pos h4] at hcV
      replace hct := Lib.hid hct; replace hcV := Lib.hid hcV
      go_wp2_with fail
      refine hct.out.mono ?_
      rintro e w1 ⟨⟨a, r, b, rfl, hab⟩, nd, rfl⟩
      have hal : a.length ≤ s0.size ∧ r.length ≤ s0.size := by
        have := hV.out.rlen
        rcases hab with ⟨_, e1, e2, _⟩ | ⟨_, e1, _⟩
        · rw [e1, e2]; exact ⟨this, by simp⟩
        · have e := congrArg List.length e1; simp at e; omega
      by_cases h3 : k < 3
      · have d3 : decide ((k : Int) < 3) = true := decide_eq_true (by omega)
        have d3' : decide (k < 3) = true := decide_eq_true h3
        rcases hab with ⟨rfl, e1, e2, e3⟩ | ⟨rfl, e1, e3⟩
        · have hlen : (cutAll 44 s0.data.toList).length ≠ 4 := by
            rw [hcV.out, ← e1, cutAll_no e3]; simp [hV.out.len]; omega
          replace hlen := Lib.hid hlen; replace e1 := Lib.hid e1; replace e2 := Lib.hid e2; replace e3 := Lib.hid e3; replace hal := Lib.hid hal
          have hz := vecOf_no hlen.out
          have cx := blk_cell hV.out.res
          have fx := blk_free hV.out.res
          have hlow := hV.out.low
          replace hz := Lib.hid hz; replace hlow := Lib.hid hlow
          go_wp2
          refine bodyPost_ret (v := .tuple #[V4.zero.val, .int .i64 11]) (by simp [results, Tryd.results105, go_sem, cx, V4.zero]) rfl ⟨by rw [hz.out], ?_⟩
          exact (((((hlow.out.trans (below_dn _ _ _)).setCell (Nat.le_refl _) _).setCell (Nat.le_refl _) _).setCell (Nat.le_refl _) _).setCell (Nat.le_refl _) _)
        · have hcut : if k + 1 < 4 then cutAll 44 s0.data.toList = (done ++ [a]) ++ cutAll 44 r else cutAll 44 s0.data.toList = done ++ [a] := by
            rw [if_pos (by omega), hcV.out, e1, cutAll_hit e3]; simp
          have hrl : r.length ≤ s0.size := hal.2
          have hal2 := hal.1
          replace hcut := Lib.hid hcut; replace e1 := Lib.hid e1; replace e3 := Lib.hid e3; replace hal := Lib.hid hal; replace hrl := Lib.hid hrl
          clear hal
          have hal := hal2
          replace hal := Lib.hid hal
          clear hal2
          have hva := vnum_any (ofL a) (wr.drewN nd) (by rw [ofL_size]; have := hal.out; have : maxLen = 9223372036854775807 := rfl; omega)
          replace hva := Lib.hid hva
          go_wp2_with fail
          refine hva.out.mono ?_
          rintro e w2 ⟨rfl, hb2⟩
          have hb2' : Below wr.heap.size wr w2 := below_drewT hb2
          have g := blk_below hb2' hV.out.arr (blk_lt hV.out.arr)
          have g2 := blk_below hb2' hV.out.res (blk_lt hV.out.res)
          have cc := blk_cell g
          have ff := blk_free g
          have hlow2 := hV.out.low.trans (hb2'.mono hV.out.low.size)
          have hmx2 := hV.out.mx.low hb2'
          have hpos := hV.out.mx.pos
          obtain ⟨f', hf1, hf2⟩ : ∃ f' : Nat → Int, Hid (∀ j, j < k + 1 → f' j = pnum (done ++ [a]) j) ∧ Hid (∀ j, f' j = if j = k then numOf (ofL a) 10 else f j) := by
            refine ⟨fun j => if j = k then numOf (ofL a) 10 else f j, fun j hj => ?_, fun _ => rfl⟩
            show (if j = k then numOf (ofL a) 10 else f j) = pnum (done ++ [a]) j
            split
            · next h => rw [h]; unfold pnum; rw [getD_app _ _ _ _ _ hV.out.len]
            · rw [hV.out.val j (by omega)]; unfold pnum; rw [getD_old _ _ _ (by rw [hV.out.len]; omega)]
          replace hb2 := Lib.hid hb2; replace hb2' := Lib.hid hb2'; replace g := Lib.hid g; replace g2 := Lib.hid g2; replace hlow2 := Lib.hid hlow2; replace hmx2 := Lib.hid hmx2; replace hpos := Lib.hid hpos
          obtain ⟨W3, hW3⟩ : ∃ W3, W3 = w2.setCell ⟨w.heap.size + 1, k, none⟩ (.int .i64 (numOf (ofL a) 10)) := ⟨_, rfl⟩
          have hV3 : VrW w s0 (k + 1) (done ++ [a]) r f' W3 := by
            rw [hW3]
            refine ⟨hlow2.out.setCell (by simp) _, ?_, blk_set_other (by omega) _ g2.out, ?_, hf1.out, by simp [hV.out.len], hcut.out, hrl.out⟩
            · obtain ⟨m, hm⟩ := hmx2.out
              exact ⟨m, (World.cell?_of_block (a := ⟨0, 0, none⟩) (w := w2) (Below.heap_setCell _ _ _ _ (by simp))).trans hm⟩
            · rw [blk_set g.out]
              rcases lt4 h4 with rfl | rfl | rfl | rfl <;> simp [hf2.out]
          replace hV3 := Lib.hid hV3
          have hW3' := Lib.hid hW3
          clear hW3
          rcases (show k = 0 ∨ k = 1 ∨ k = 2 by omega) with rfl | rfl | rfl
          all_goals
            go_wp2
            try rw [← hW3'.out]
            go_roundw
            case rel => exact ⟨_, _, _, f', by omega, by go_num, rfl, hV3.out⟩
            case measure => simp [intOf]
      · have hk3 : k = 3 := by omega
        have d3 : decide ((k : Int) < 3) = false := decide_eq_false (by omega)
        have d3' : decide (k < 3) = false := decide_eq_false h3
        rcases hab with ⟨rfl, e1, e2, e3⟩ | ⟨rfl, e1, e3⟩
        · have hcut : if k + 1 < 4 then cutAll 44 s0.data.toList = (done ++ [a]) ++ cutAll 44 r else cutAll 44 s0.data.toList = done ++ [a] := by
            rw [if_neg (by omega), hcV.out, ← e1, cutAll_no e3]
          have hrl : r.length ≤ s0.size := hal.2
          have hal2 := hal.1
          replace hcut := Lib.hid hcut; replace e1 := Lib.hid e1; replace e2 := Lib.hid e2; replace e3 := Lib.hid e3; replace hal := Lib.hid hal; replace hrl := Lib.hid hrl; replace hk3 := Lib.hid hk3
          clear hal
          have hal := hal2
          replace hal := Lib.hid hal
          clear hal2
          have hva := vnum_any (ofL a) (wr.drewN nd) (by rw [ofL_size]; have := hal.out; have : maxLen = 9223372036854775807 := rfl; omega)
          replace hva := Lib.hid hva
          go_wp2_with fail
          refine hva.out.mono ?_
          rintro e w2 ⟨rfl, hb2⟩
          have hb2' : Below wr.heap.size wr w2 := below_drewT hb2
          have g := blk_below hb2' hV.out.arr (blk_lt hV.out.arr)
          have g2 := blk_below hb2' hV.out.res (blk_lt hV.out.res)
          have cc := blk_cell g
          have ff := blk_free g
          have hlow2 := hV.out.low.trans (hb2'.mono hV.out.low.size)
          have hmx2 := hV.out.mx.low hb2'
          have hpos := hV.out.mx.pos
          obtain ⟨f', hf1, hf2⟩ : ∃ f' : Nat → Int, Hid (∀ j, j < k + 1 → f' j = pnum (done ++ [a]) j) ∧ Hid (∀ j, f' j = if j = k then numOf (ofL a) 10 else f j) := by
            refine ⟨fun j => if j = k then numOf (ofL a) 10 else f j, fun j hj => ?_, fun _ => rfl⟩
            show (if j = k then numOf (ofL a) 10 else f j) = pnum (done ++ [a]) j
            split
            · next h => rw [h]; unfold pnum; rw [getD_app _ _ _ _ _ hV.out.len]
            · rw [hV.out.val j (by omega)]; unfold pnum; rw [getD_old _ _ _ (by rw [hV.out.len]; omega)]
          replace hb2 := Lib.hid hb2; replace hb2' := Lib.hid hb2'; replace g := Lib.hid g; replace g2 := Lib.hid g2; replace hlow2 := Lib.hid hlow2; replace hmx2 := Lib.hid hmx2; replace hpos := Lib.hid hpos
          obtain ⟨W3, hW3⟩ : ∃ W3, W3 = w2.setCell ⟨w.heap.size + 1, k, none⟩ (.int .i64 (numOf (ofL a) 10)) := ⟨_, rfl⟩
          have hV3 : VrW w s0 (k + 1) (done ++ [a]) r f' W3 := by
            rw [hW3]
            refine ⟨hlow2.out.setCell (by simp) _, ?_, blk_set_other (by omega) _ g2.out, ?_, hf1.out, by simp [hV.out.len], hcut.out, hrl.out⟩
            · obtain ⟨m, hm⟩ := hmx2.out
              exact ⟨m, (World.cell?_of_block (a := ⟨0, 0, none⟩) (w := w2) (Below.heap_setCell _ _ _ _ (by simp))).trans hm⟩
            · rw [blk_set g.out]
              rcases lt4 h4 with rfl | rfl | rfl | rfl <;> simp [hf2.out]
          replace hV3 := Lib.hid hV3
          have hW3' := Lib.hid hW3
          clear hW3
          have hk3' := hk3.out; subst hk3'
          all_goals
            go_wp2
            try rw [← hW3'.out]
            go_roundw
            case rel => exact ⟨_, _, _, f', by omega, by go_num, rfl, hV3.out⟩
            case measure => simp [intOf]
        · have hlen : (cutAll 44 s0.data.toList).length ≠ 4 := by
            rw [hcV.out, e1, cutAll_hit e3]
            have := cutAll_pos 44 r
            simp [hV.out.len]; omega
          replace hlen := Lib.hid hlen; replace e1 := Lib.hid e1; replace e3 := Lib.hid e3; replace hal := Lib.hid hal; replace hk3 := Lib.hid hk3
          have hz := vecOf_no hlen.out
          have cx := blk_cell hV.out.res
          have fx := blk_free hV.out.res
          have hlow := hV.out.low
          replace hz := Lib.hid hz; replace hlow := Lib.hid hlow
          go_wp2
          refine bodyPost_ret (v := .tuple #[V4.zero.val, .int .i64 11]) (by simp [results, Tryd.results105, go_sem, cx, V4.zero]) rfl ⟨by rw [hz.out], ?_⟩
          exact (((((hlow.out.trans (below_dn _ _ _)).setCell (Nat.le_refl _) _).setCell (Nat.le_refl _) _).setCell (Nat.le_refl _) _).setCell (Nat.le_refl _) _)
    · have hi : ¬ (k : Int) < 4 := by omega
      have k4 : k = 4 := by omega
      subst k4
      have hcV := hV.out.cut
      rw [if_neg (by omega)] at hcV
      have hvo : vecOf s0 = (vecP done).told 11 := by unfold vecOf; rw [hcV, if_pos hV.out.len]
      have hv := hV.out.val
      have e0 := hv 0 (by omega); have e1 := hv 1 (by omega); have e2 := hv 2 (by omega); have e3 := hv 3 (by omega)
      have cc := blk_cell hV.out.arr
      obtain ⟨v, hv⟩ : ∃ v : V4, v = vecP done := ⟨_, rfl⟩
      have hc : (#[.int .i64 (f 0), .int .i64 (f 1), .int .i64 (f 2), .int .i64 (f 3)] : Array Value) = v.cells := by rw [hv, e0, e1, e2, e3]; rfl
      rw [hc] at cc
      have hto := told_any v 11 wr
      clear e0 e1 e2 e3 hc
      rw [← hv] at hvo
      replace hcV := Lib.hid hcV; replace hvo := Lib.hid hvo; replace hv := Lib.hid hv; replace hto := Lib.hid hto
      go_wp2_with fail
      refine hto.out.mono ?_
      rintro e w2 ⟨rfl, hb2⟩
      have hlow2 := hV.out.low.trans (hb2.mono hV.out.low.size)
      have g2 := blk_below hb2 hV.out.res (blk_lt hV.out.res)
      clear cc
      have cx := blk_cell g2
      have fx := blk_free g2
      obtain ⟨u, hu⟩ : ∃ u : V4, u = (v.told 11).1 := ⟨_, rfl⟩
      obtain ⟨r, hr⟩ : ∃ r : Int, r = (v.told 11).2 := ⟨_, rfl⟩
      rw [← hu, ← hr]
      have hres : vecOf s0 = (u, r) := by rw [hvo.out, hu, hr]
      replace hb2 := Lib.hid hb2; replace hlow2 := Lib.hid hlow2; replace g2 := Lib.hid g2; replace hu := Lib.hid hu; replace hr := Lib.hid hr; replace hres := Lib.hid hres
      go_wp2
      refine bodyPost_ret (v := .tuple #[u.val, .int .i64 r]) (by simp [results, Tryd.results105, go_sem, cx]) rfl ⟨by rw [hres.out], ?_⟩
      exact ((((hlow2.out.setCell (Nat.le_refl _) _).setCell (Nat.le_refl _) _).setCell (Nat.le_refl _) _).setCell (Nat.le_refl _) _)
end Go.Proofs.YteoihdkaoipocaaDoor

/- corveeref03.Cut: a text's pieces; corveeref03.Right. -/
namespace Go.Proofs.YteoihdkaoipocaaDoor
open Go.RowKit

/-- a row of texts in memory -/
structure StrsAt (w : World) (so : Option Addr) (n : Nat) (xs : List ByteArray) : Prop where
  len : xs.length = n
  max : n ≤ 9223372036854775807
  cell : ∀ i x, xs[i]? = some x → ∃ b off, so = some ⟨b, off, none⟩ ∧ b < w.heap.size ∧ w.cell? ⟨b, off + i, none⟩ = some (.string x)
theorem StrsAt.below {w w' : World} {B : Nat} {so : Option Addr} {n : Nat} {xs : List ByteArray} (h : StrsAt w so n xs) (hb : Below B w w') (hB : w.heap.size ≤ B) : StrsAt w' so n xs :=
  ⟨h.len, h.max, fun i x hx => by
    obtain ⟨b, off, e, hlt, hc⟩ := h.cell i x hx
    exact ⟨b, off, e, Nat.lt_of_lt_of_le hlt hb.size, (below_cell hb (by omega)).trans hc⟩⟩
theorem StrsAt.low {w w' : World} {so : Option Addr} {n : Nat} {xs : List ByteArray} (h : StrsAt w so n xs) (hb : Below w.heap.size w w') : StrsAt w' so n xs := h.below hb (Nat.le_refl _)
theorem StrsAt.get {w : World} {so : Option Addr} {n : Nat} {xs : List ByteArray} (h : StrsAt w so n xs) {i : Nat} (hi : i < n) : ∃ x, xs[i]? = some x := ⟨_, List.getElem?_eq_getElem (by rw [h.len]; exact hi)⟩
theorem owns_cap {w : World} {base g cap n m size : Nat} {e : TypeId} {xs : List Value} (h : w.ownsRow base e size (.slice (some ⟨g, 0, none⟩) n cap) m xs) : m ≤ cap := by
  rcases h.2 with ⟨hv, _⟩ | ⟨g', cap', cur, hv, _, _, hc, _⟩
  · cases hv
  · cases hv; exact hc
theorem owns_at {w : World} {base g cap n m size : Nat} {e : TypeId} {xs : List Value} (h : w.ownsRow base e size (.slice (some ⟨g, 0, none⟩) n cap) m xs) : ∃ c, w.heap[g]? = some (.cells c e (0, 0)) := by
  rcases h.2 with ⟨hv, _⟩ | ⟨g', cap', cur, hv, _, hh, _, _⟩
  · cases hv
  · cases hv; exact ⟨cur, hh⟩
/-- a row of one's own is a row of texts -/
theorem strs_of_own {w : World} {base g cap n : Nat} {xs : List ByteArray} (h : w.ownsRow base 9 1 (.slice (some ⟨g, 0, none⟩) n cap) n (xs.map .string)) (hm : n ≤ 9223372036854775807) : StrsAt w (some ⟨g, 0, none⟩) n xs := by
  have hl : xs.length = n := by have := h.1; simpa using this
  refine ⟨hl, hm, fun i x hx => ?_⟩
  have hi := (List.getElem?_eq_some_iff.1 hx).1
  refine ⟨g, 0, rfl, (h.lt g rfl).2, ?_⟩
  rw [Nat.zero_add, World.ownsRow.cellAt h i (by omega), List.getElem?_map, hx]; rfl
theorem strs_of_blk {w : World} {b : Nat} {xs : List ByteArray} {fr : Nat × Nat} (h : w.heap[b]? = some (.cells (xs.map Value.string).toArray 9 fr)) (hm : xs.length ≤ 9223372036854775807) : StrsAt w (some ⟨b, 0, none⟩) xs.length xs :=
  ⟨rfl, hm, fun i x hx => ⟨b, 0, rfl, blk_lt h, by rw [Nat.zero_add, blk_cell h]; simp [hx]⟩⟩
theorem StrsAt.sub {w : World} {b off n : Nat} {xs : List ByteArray} (h : StrsAt w (some ⟨b, off, none⟩) n xs) (k : Nat) (hk : k ≤ n) : StrsAt w (some ⟨b, off + k, none⟩) (n - k) (xs.drop k) :=
  ⟨by rw [List.length_drop, h.len], by have := h.max; omega, fun i x hx => by
    rw [List.getElem?_drop] at hx
    obtain ⟨b', off', e, hlt, hc⟩ := h.cell (k + i) x hx
    cases e
    exact ⟨b, off + k, rfl, hlt, by rw [Nat.add_assoc]; exact hc⟩⟩

theorem info9 : (Tryd.prog.info? 9).map (fun i => (i.zero, i.size, i.bytes)) = some (some (.string ByteArray.empty), 1, 16) := by kernel_rfl
theorem maxLen_ge {n : Nat} (h : n ≤ 9000000000) : n + 1 ≤ maxLen := by have : maxLen = 9223372036854775807 := rfl; omega
theorem str_new (w : World) (x : ByteArray) : ∀ j u, [Value.string x][j]? = some u → (w.alloc (.cells #[.string x] 9 (0, 0))).cell? ((⟨w.heap.size, 0, none⟩ : Addr).add j) = some u := cell_one_new w (.string x) 9
theorem str_one (x : ByteArray) : ∀ u ∈ [Value.string x], u.oneCell' = true := by simp [Value.oneCell']
theorem chz_eq (s : ByteArray) (k : Nat) (hk : k < s.size) (x : UInt8) : (chz s k == (x.toNat : Int)) = decide (s.data.toList[k]? = some x) := by
  have h2 : k < s.data.toList.length := hk
  have h4 : k < s.data.size := hk
  have h3 : s.data.toList.getD k 0 = s.data.toList[k] := by
    simp only [List.getD, Array.getElem?_toList, Array.getElem_toList]
    rw [Array.getElem?_eq_getElem h4]; rfl
  unfold chz
  rw [h3, List.getElem?_eq_getElem h2]
  rw [Bool.eq_iff_iff]
  simp only [beq_iff_eq, decide_eq_true_eq, Option.some.injEq]
  constructor
  · intro e; exact UInt8.toNat_inj.1 (by omega)
  · intro e; rw [e]
theorem take_one {α : Type} (l : List α) (k f : Nat) (x : α) (hx : l[k]? = some x) (hf : f ≤ k) : (l.drop f).take (k + 1 - f) = (l.drop f).take (k - f) ++ [x] := by
  obtain ⟨d, rfl⟩ : ∃ d, k = f + d := ⟨k - f, by omega⟩
  rw [show f + d + 1 - f = d + 1 by omega, show f + d - f = d by omega, List.take_add_one, List.getElem?_drop, hx]
  rfl
theorem drop_hit {α : Type} (l : List α) (k f : Nat) (x : α) (hx : l[k]? = some x) (hf : f ≤ k) : l.drop f = (l.drop f).take (k - f) ++ x :: l.drop (k + 1) := by
  obtain ⟨d, rfl⟩ : ∃ d, k = f + d := ⟨k - f, by omega⟩
  have hl := (List.getElem?_eq_some_iff.1 hx).1
  have e : (l.drop f).drop d = x :: l.drop (f + d + 1) := by
    rw [List.drop_drop, List.drop_eq_getElem_cons hl, (List.getElem?_eq_some_iff.1 hx).2]
  rw [show f + d - f = d by omega, ← e, List.take_append_drop]

structure CtW (w : World) (s : ByteArray) (x : UInt8) (k f : Nat) (n : Nat) (done : List ByteArray) (ov : Value) (wr : World) : Prop where
  low : Below w.heap.size w wr
  own : wr.ownsRow w.heap.size 9 1 ov n (done.map Value.string)
  cut : (cutAll x s.data.toList).map ofL = done ++ (cutAll x (s.data.toList.drop f)).map ofL
  no : x ∉ (s.data.toList.drop f).take (k - f)
  fk : f ≤ k
  nk : n ≤ k

def StrsPost (xs : List ByteArray) (w : World) (e : Ending) (w' : World) : Prop :=
  ∃ so n c, e = .returned (.slice so n c) ∧ n ≤ c ∧ StrsAt w' so n xs ∧ (∀ b off, so = some ⟨b, off, none⟩ → off = 0 ∧ w.heap.size ≤ b ∧ ∃ c, w'.heap[b]? = some (.cells c 9 (0, 0))) ∧ Below w.heap.size w w'
set_option maxRecDepth 100000 in
set_option maxHeartbeats 3200000 in
theorem rcut_any (s : ByteArray) (x : UInt8) (w : World) (hs : s.size ≤ 4294967280) : Calls Tryd.prog 29 #[.string s, .int .u8 (x.toNat : Int)] w (StrsPost ((cutAll x s.data.toList).map ofL) w) := by
  obtain ⟨i9, hi9, hz9, hz91, hz92⟩ := info_parts info9
  have hix : ∀ (k : Nat), k < s.size → ∀ w, (Instr.index 9 (.string s) (.int .i64 (k : Int))).run Tryd.prog w = .ok (.int .u8 (chz s k)) w := fun k hk w => index_at Tryd.underlying9 s k k rfl hk w
  have hsl : ∀ (f k : Nat), f ≤ k → k ≤ s.size → ∀ w, (Instr.slice 9 (.string s) (some (.int .i64 (f : Int))) (some (.int .i64 (k : Int))) none).run Tryd.prog w = .ok (.string (ofL ((s.data.toList.drop f).take (k - f)))) w := fun f k h1 h2 w => by
    rw [run_slice_string w 9 s .i64 .i64 f k Tryd.underlying9 (by omega) (by omega) (by omega)]
    congr 2
    exact toL_inj (by rw [ofL_toL, Lib.extract_data]; rfl)
  have hse : ∀ (f : Nat), f ≤ s.size → ∀ w, (Instr.slice 9 (.string s) (some (.int .i64 (f : Int))) none none).run Tryd.prog w = .ok (.string (ofL (s.data.toList.drop f))) w := fun f h1 w => by
    rw [run_slice_string_from_if w 9 s .i64 f Tryd.underlying9, if_pos ⟨by omega, by omega⟩]
    congr 2
    exact toL_inj (by rw [ofL_toL, Lib.extract_to_end]; rfl)
  have hC0 : CtW w s x 0 0 0 [] (.slice none 0 0) w := ⟨Below.refl _ _, World.ownsRow_nil _ _ _ _, by simp, by simp, Nat.le_refl _, Nat.le_refl _⟩
  replace hix := Lib.hid hix; replace hsl := Lib.hid hsl; replace hse := Lib.hid hse; replace hC0 := Lib.hid hC0
  go_enter Tryd.func29, Tryd.ntmps29
  go_wp2
  go_loopw [5, 6, 7] (fun ov fv i wr => ∃ (k f n : Nat) (done : List ByteArray), i = .int .i64 k ∧ fv = .int .i64 f ∧ k ≤ s.size ∧ f ≤ k ∧ n ≤ k ∧ Hid (CtW w s x k f n done ov wr)) (fun _ _ i _ => s.size - (intOf i).toNat)
  case atStart => exact ⟨0, 0, 0, [], rfl, rfl, Nat.zero_le _, Nat.le_refl _, Nat.le_refl _, hC0.out⟩
  case round =>
    obtain ⟨k, f, n, done, rfl, rfl, hk, hf, hnk, hC⟩ := hrel
    by_cases hk1 : k < s.size
    · have hc1 : (k : Int) < s.size := by omega
      have hi1 := hix.out k hk1
      have hq := chz_eq s k hk1 x
      obtain ⟨c, hc⟩ : ∃ c, c = chz s k := ⟨_, rfl⟩
      rw [← hc] at hi1 hq
      by_cases he : s.data.toList[k]? = some x
      · have d : (c == (x.toNat : Int)) = true := by rw [hq]; exact decide_eq_true he
        have hs1 := hsl.out f k hf (by omega)
        obtain ⟨pc, hpc⟩ : ∃ pc, pc = ofL ((s.data.toList.drop f).take (k - f)) := ⟨_, rfl⟩
        rw [← hpc] at hs1
        have hownA := ((hC.out).own).alloc (.cells #[.string pc] 9 (0, 0))
        have hnews := str_new wr pc
        have hone := str_one pc
        have h63 := maxLen_ge (n := n) (by omega)
        have hby : (n + 1) * 16 ≤ 140737488355328 := by omega
        have hbas : w.heap.size ≤ (wr.alloc (.cells #[.string pc] 9 (0, 0))).heap.size := by have := (hC.out).low.size; simp; omega
        replace hownA := Lib.hid hownA; replace hnews := Lib.hid hnews; replace hone := Lib.hid hone; replace h63 := Lib.hid h63; replace hby := Lib.hid hby; replace hbas := Lib.hid hbas
        replace hc := Lib.hid hc; replace he := Lib.hid he; replace hq := Lib.hid hq; replace hpc := Lib.hid hpc
        go_wp2_with (at_builtin; refine wpList_append_own _ rfl _ _ 36 rfl (w.heap.size) 9 i9 _ 1 16 Tryd.underlying36 hi9 hz9 hz91 hz92 rfl Nat.one_pos _ n _ rfl hownA.out ⟨wr.heap.size, 0, none⟩ 1 1 [.string pc] rfl rfl hnews.out hone.out h63.out hby.out hbas.out ?_; intro v1 w9 hown9 hgrow _; replace hown9 := Lib.hid hown9; replace hgrow := Lib.hid hgrow)
        have hC9 : CtW w s x (k + 1) (k + 1) (n + 1) (done ++ [pc]) v1 w9 := by
          refine ⟨(hC.out.low.alloc hC.out.low.size _).grown hgrow.out (by have := hC.out.low.size; simp; omega) (fun j e => (hC.out.own.lt j e).1), by rw [List.map_append]; exact hown9.out, ?_, by simp, Nat.le_refl _, by omega⟩
          rw [hC.out.cut, drop_hit _ k f x he.out hf, cutAll_hit hC.out.no, hpc.out]; simp
        replace hC9 := Lib.hid hC9
        go_wp2
        go_roundw
        case rel => exact ⟨k + 1, k + 1, n + 1, done ++ [pc], by go_num, by go_num, by omega, by omega, by omega, hC9.out⟩
        case measure => simp [intOf]; omega
      · have d : (c == (x.toNat : Int)) = false := by rw [hq]; exact decide_eq_false he
        have hC9 : CtW w s x (k + 1) f n done u5 wr := by
          refine ⟨hC.out.low, hC.out.own, hC.out.cut, ?_, by omega, by omega⟩
          obtain ⟨y, hy⟩ : ∃ y, s.data.toList[k]? = some y := ⟨_, List.getElem?_eq_getElem hk1⟩
          rw [take_one _ k f y hy hf]
          intro hm
          rcases List.mem_append.1 hm with h | h
          · exact hC.out.no h
          · have : x = y := by simpa using h
            rw [this] at he; exact he hy
        replace hc := Lib.hid hc; replace he := Lib.hid he; replace hq := Lib.hid hq; replace hC9 := Lib.hid hC9
        go_wp2
        go_roundw
        case rel => exact ⟨k + 1, f, n, done, by go_num, rfl, by omega, by omega, by omega, hC9.out⟩
        case measure => simp [intOf]; omega
    · have hc1 : ¬ (k : Int) < s.size := by omega
      have hkn : k = s.size := by omega
      have hs1 := hse.out f (by omega)
      obtain ⟨pc, hpc⟩ : ∃ pc, pc = ofL (s.data.toList.drop f) := ⟨_, rfl⟩
      rw [← hpc] at hs1
      have hownA := ((hC.out).own).alloc (.cells #[.string pc] 9 (0, 0))
      have hnews := str_new wr pc
      have hone := str_one pc
      have h63 := maxLen_ge (n := n) (by omega)
      have hby : (n + 1) * 16 ≤ 140737488355328 := by omega
      have hbas : w.heap.size ≤ (wr.alloc (.cells #[.string pc] 9 (0, 0))).heap.size := by have := (hC.out).low.size; simp; omega
      replace hownA := Lib.hid hownA; replace hnews := Lib.hid hnews; replace hone := Lib.hid hone; replace h63 := Lib.hid h63; replace hby := Lib.hid hby; replace hbas := Lib.hid hbas
      replace hpc := Lib.hid hpc; replace hkn := Lib.hid hkn
      go_wp2_with (at_builtin; refine wpList_append_own _ rfl _ _ 36 rfl (w.heap.size) 9 i9 _ 1 16 Tryd.underlying36 hi9 hz9 hz91 hz92 rfl Nat.one_pos _ n _ rfl hownA.out ⟨wr.heap.size, 0, none⟩ 1 1 [.string pc] rfl rfl hnews.out hone.out h63.out hby.out hbas.out ?_; intro v1 w9 hown9 hgrow _; obtain ⟨g, cap1, rfl⟩ := Joins.ownsRow_form hown9 (Nat.succ_pos _); replace hown9 := Lib.hid hown9; replace hgrow := Lib.hid hgrow)
      have hlow9 : Below w.heap.size w w9 := (hC.out.low.alloc hC.out.low.size _).grown hgrow.out (by have := hC.out.low.size; simp; omega) (fun j e => (hC.out.own.lt j e).1)
      have hown : w9.ownsRow w.heap.size 9 1 (.slice (some ⟨g, 0, none⟩) (n + 1) cap1) (n + 1) (((cutAll x s.data.toList).map ofL).map Value.string) := by
        have hno := hC.out.no
        rw [List.take_of_length_le (by rw [List.length_drop, toL_len]; have := hkn.out; omega)] at hno
        rw [hC.out.cut, cutAll_no hno, List.map_append]
        have h := hown9.out
        rw [hpc.out] at h
        exact h
      replace hlow9 := Lib.hid hlow9; replace hown := Lib.hid hown
      go_ret
      exact ⟨some ⟨g, 0, none⟩, n + 1, cap1, rfl, owns_cap hown.out, strs_of_own hown.out (by omega), fun b off e => by cases e; exact ⟨rfl, (hown.out.lt g rfl).1, owns_at hown.out⟩, hlow9.out⟩
end Go.Proofs.YteoihdkaoipocaaDoor

/- corveeref03.Digits: a number in decimal digits. -/
namespace Go.Proofs.YteoihdkaoipocaaDoor
open Go.RowKit

def digS : ByteArray := { data := #[48, 49, 50, 51, 52, 53, 54, 55, 56, 57] }
theorem dig_ext (d : Nat) (h : d < 10) : ({ data := #[48, 49, 50, 51, 52, 53, 54, 55, 56, 57] } : ByteArray).extract d (1 + d) = ofL [UInt8.ofNat (48 + d)] := by
  rcases (show d = 0 ∨ d = 1 ∨ d = 2 ∨ d = 3 ∨ d = 4 ∨ d = 5 ∨ d = 6 ∨ d = 7 ∨ d = 8 ∨ d = 9 by omega) with rfl | rfl | rfl | rfl | rfl | rfl | rfl | rfl | rfl | rfl <;> kernel_rfl
theorem ofL_app (a b : List UInt8) : ofL a ++ ofL b = ofL (a ++ b) := toL_inj (by rw [ofL_toL]; simp [ofL])
theorem dec_len : ∀ (n u : Nat), u < 10 ^ (n + 1) → (Lib.decDigits u).length ≤ n + 1
  | 0, u, h => by rw [Lib.decDigits, dif_pos (by simpa using h)]; simp
  | n + 1, u, h => by
    rw [Lib.decDigits]
    split
    · simp
    · have := dec_len n (u / 10) (by rw [Nat.pow_succ] at h; omega)
      rw [List.length_append]
      simp
      omega
theorem dec_le {u : Nat} (h : u ≤ 9223372036854775808) : (Lib.decDigits u).length ≤ 19 := by
  refine dec_len 18 u ?_
  have : (10 : Nat) ^ (18 + 1) = 10000000000000000000 := by decide
  rw [this]
  omega
theorem neg_tmod (u : Nat) : (-(u : Int)).tmod 10 = -((u % 10 : Nat) : Int) := by
  rw [Int.neg_tmod, Int.tmod_eq_emod_of_nonneg (by omega)]; omega
theorem neg_tdiv (u : Nat) : (-(u : Int)).tdiv 10 = -((u / 10 : Nat) : Int) := by
  rw [Int.neg_tdiv, Int.tdiv_eq_ediv_of_nonneg (by omega)]; omega
set_option maxRecDepth 100000 in
set_option maxHeartbeats 800000 in
theorem minus_any (u : Nat) (hu : u ≤ 9223372036854775808) (w : World) : Calls Tryd.prog 121 #[.int .i64 (-(u : Int))] w fun e w' => e = .returned (.string (ofL (Lib.decDigits u))) ∧ w' = w := by
  induction u using Nat.strongRecOn with
  | _ u ih =>
    obtain ⟨q, hq⟩ : ∃ q, q = u / 10 := ⟨_, rfl⟩
    obtain ⟨d, hd⟩ : ∃ d, d = u % 10 := ⟨_, rfl⟩
    have hd10 : d < 10 := by omega
    obtain ⟨x, hx⟩ : ∃ x : Int, x = -(u : Int) := ⟨_, rfl⟩
    have hr : x.tmod 10 = -(d : Int) := by rw [hx, hd, neg_tmod]
    have hqq : x.tdiv 10 = -(q : Int) := by rw [hx, hq, neg_tdiv]
    have hx0 : x ≤ 0 := by omega
    have hx1 : -9223372036854775808 ≤ x := by omega
    have hsl := dig_ext d hd10
    have hq0 : (0 : Int) ≤ (q : Int) := by omega
    have hq1 : (q : Int) ≤ 922337203685477580 := by omega
    have ihq := fun (h : q < u) => ih q h (by omega)
    rw [← hx]
    have ih' := Lib.hid ih
    have ihq' := Lib.hid ihq
    clear ih ihq
    by_cases hb : x > -10
    · have hdd : Lib.decDigits u = [UInt8.ofNat (48 + d)] := by rw [Lib.decDigits, dif_pos (by omega)]; rw [show d = u by omega]
      have db : decide (-10 < x) = true := decide_eq_true hb
      replace hq := Lib.hid hq; replace hd := Lib.hid hd; replace hx := Lib.hid hx; replace hdd := Lib.hid hdd; replace hsl := Lib.hid hsl
      go_enter Tryd.func121, Tryd.ntmps121
      go_wp2
      go_ret
      refine ⟨?_, rfl⟩
      show Ending.returned (.string (({ data := #[48, 49, 50, 51, 52, 53, 54, 55, 56, 57] } : ByteArray).extract d (1 + d))) = _
      rw [hsl.out, hdd.out]
    · have hdd : Lib.decDigits u = Lib.decDigits q ++ [UInt8.ofNat (48 + d)] := by rw [Lib.decDigits, dif_neg (by omega), ← hq, ← hd]
      have db : decide (-10 < x) = false := decide_eq_false hb
      have hc := ihq'.out (by omega)
      have hwq : wrap64 (-(q : Int)) = -(q : Int) := by unfold wrap64; omega
      have hsz : (ofL (Lib.decDigits q)).size ≤ 19 := by rw [ofL_size]; exact dec_le (by omega)
      have hlt : ¬ 9223372036854775807 < (ofL (Lib.decDigits q)).size + (min (1 + d) 10 - d) := by omega
      replace hq := Lib.hid hq; replace hd := Lib.hid hd; replace hx := Lib.hid hx; replace hdd := Lib.hid hdd; replace hsl := Lib.hid hsl; replace hc := Lib.hid hc; replace hsz := Lib.hid hsz
      go_enter Tryd.func121, Tryd.ntmps121
      go_wp2_with fail
      (with_reducible refine hc.out.mono ?_)
      rintro e w1 ⟨rfl, rfl⟩
      go_wp2
      go_ret
      refine ⟨?_, rfl⟩
      show Ending.returned (.string (ofL (Lib.decDigits q) ++ ({ data := #[48, 49, 50, 51, 52, 53, 54, 55, 56, 57] } : ByteArray).extract d (1 + d))) = _
      rw [hsl.out, hdd.out, ofL_app]
theorem itoa_len {n : Int} (h0 : -9223372036854775808 ≤ n) (h1 : n ≤ 9223372036854775807) : (Lib.itoa n).length ≤ 20 := by
  unfold Lib.itoa
  split
  · have := dec_le (u := n.natAbs) (by omega)
    simp; omega
  · have := dec_le (u := n.toNat) (by omega)
    omega
set_option maxRecDepth 100000 in
theorem digits_any (n : Int) (h0 : -9223372036854775808 ≤ n) (h1 : n ≤ 9223372036854775807) (w : World) : Calls Tryd.prog 78 #[.int .i64 n] w fun e w' => e = .returned (.string (ofL (Lib.itoa n))) ∧ w' = w := by
  by_cases hn : n < 0
  · have dn : decide (n < 0) = true := decide_eq_true hn
    have hi : Lib.itoa n = 45 :: Lib.decDigits n.natAbs := if_pos hn
    have hc := minus_any n.natAbs (by omega) w
    rw [show (-(n.natAbs : Int)) = n by omega] at hc
    have hsz : (ofL (Lib.decDigits n.natAbs)).size ≤ 19 := by rw [ofL_size]; exact dec_le (by omega)
    have hlt : ¬ 9223372036854775807 < 1 + (ofL (Lib.decDigits n.natAbs)).size := by omega
    replace hi := Lib.hid hi; replace hc := Lib.hid hc; replace hsz := Lib.hid hsz
    go_enter Tryd.func78, Tryd.ntmps78
    go_wp2_with fail
    refine hc.out.mono ?_
    rintro e w1 ⟨rfl, rfl⟩
    go_wp2
    go_ret
    refine ⟨?_, rfl⟩
    show Ending.returned (.string (({ data := #[45] } : ByteArray) ++ ofL (Lib.decDigits n.natAbs))) = _
    rw [hi.out, show ({ data := #[45] } : ByteArray) = ofL [45] from rfl, ofL_app]; rfl
  · have dn : decide (n < 0) = false := decide_eq_false hn
    have hi : Lib.itoa n = Lib.decDigits n.toNat := if_neg hn
    have hc := minus_any n.toNat (by omega) w
    rw [show (-(n.toNat : Int)) = -n by omega] at hc
    replace hi := Lib.hid hi; replace hc := Lib.hid hc
    go_enter Tryd.func78, Tryd.ntmps78
    go_wp2_with fail
    (with_reducible refine hc.out.mono ?_)
    rintro e w1 ⟨rfl, rfl⟩
    go_wp2
    go_ret
    exact ⟨by rw [hi.out]; rfl, rfl⟩
end Go.Proofs.YteoihdkaoipocaaDoor

/- corveeref03.Text: an amount as a text. -/
namespace Go.Proofs.YteoihdkaoipocaaDoor
open Go.RowKit

/-- an amount as a text -/
def txtV (v : V4) : List UInt8 := Lib.itoa v.a ++ [44] ++ Lib.itoa v.b ++ [44] ++ Lib.itoa v.c ++ [44] ++ Lib.itoa v.d
structure V64 (v : V4) : Prop where
  a : -9223372036854775808 ≤ v.a ∧ v.a ≤ 9223372036854775807
  b : -9223372036854775808 ≤ v.b ∧ v.b ≤ 9223372036854775807
  c : -9223372036854775808 ≤ v.c ∧ v.c ≤ 9223372036854775807
  d : -9223372036854775808 ≤ v.d ∧ v.d ≤ 9223372036854775807
theorem txtV_len {v : V4} (h : V64 v) : (txtV v).length ≤ 83 := by
  have a := itoa_len h.a.1 h.a.2
  have b := itoa_len h.b.1 h.b.2
  have c := itoa_len h.c.1 h.c.2
  have d := itoa_len h.d.1 h.d.2
  simp [txtV]
  omega
set_option maxRecDepth 100000 in
set_option maxHeartbeats 400000 in
theorem rtext_any (v : V4) (hv : V64 v) (w : World) : Calls Tryd.prog 37 #[v.val] w fun e w' => e = .returned (.string (ofL (txtV v))) ∧ Below w.heap.size w w' := by
  obtain ⟨va, vb, vc, vd⟩ := v
  have ca := fun w => digits_any va hv.a.1 hv.a.2 w
  have cb := fun w => digits_any vb hv.b.1 hv.b.2 w
  have cc := fun w => digits_any vc hv.c.1 hv.c.2 w
  have cd := fun w => digits_any vd hv.d.1 hv.d.2 w
  have la := itoa_len hv.a.1 hv.a.2
  have lb := itoa_len hv.b.1 hv.b.2
  have lc := itoa_len hv.c.1 hv.c.2
  have ld := itoa_len hv.d.1 hv.d.2
  rw [← ofL_size] at la lb lc ld
  obtain ⟨A, hA⟩ : ∃ A, A = ofL (Lib.itoa va) := ⟨_, rfl⟩
  obtain ⟨B, hB⟩ : ∃ B, B = ofL (Lib.itoa vb) := ⟨_, rfl⟩
  obtain ⟨C, hC⟩ : ∃ C, C = ofL (Lib.itoa vc) := ⟨_, rfl⟩
  obtain ⟨D, hD⟩ : ∃ D, D = ofL (Lib.itoa vd) := ⟨_, rfl⟩
  simp only at la lb lc ld
  rw [← hA] at ca la
  rw [← hB] at cb lb
  rw [← hC] at cc lc
  rw [← hD] at cd ld
  replace hA := Lib.hid hA; replace hB := Lib.hid hB; replace hC := Lib.hid hC; replace hD := Lib.hid hD; replace hv := Lib.hid hv; replace ca := Lib.hid ca; replace cb := Lib.hid cb; replace cc := Lib.hid cc; replace cd := Lib.hid cd
  go_enter Tryd.func37, Tryd.ntmps37
  go_wp2
  go_quiet (first
    | ((go_at_call 78; (with_reducible exact Calls.quiet_of_same (ca.out _))))
    | ((go_at_call 78; (with_reducible exact Calls.quiet_of_same (cb.out _))))
    | ((go_at_call 78; (with_reducible exact Calls.quiet_of_same (cc.out _))))
    | ((go_at_call 78; (with_reducible exact Calls.quiet_of_same (cd.out _)))))
  go_wp2
  go_ret
  refine ⟨?_, ((Below.refl _ _).alloc (Nat.le_refl _) _).trans (below_dn _ _ _)⟩
  show Ending.returned (.string (A ++ ({ data := #[44] } : ByteArray) ++ B ++ ({ data := #[44] } : ByteArray) ++ C ++ ({ data := #[44] } : ByteArray) ++ D)) = _
  rw [hA.out, hB.out, hC.out, hD.out, show ({ data := #[44] } : ByteArray) = ofL [44] from rfl, ofL_app, ofL_app, ofL_app, ofL_app, ofL_app, ofL_app]
  rfl
end Go.Proofs.YteoihdkaoipocaaDoor

/- fleet.node: the node of a line. -/
namespace Go.Proofs.YteoihdkaoipocaaDoor
open Go.RowKit

structure Nde where
  name : ByteArray
  cap : V4
  po : Option Addr
  pn : Nat
  pc : Nat
  parts : List ByteArray
abbrev Nde.cells (x : Nde) : Array Value := #[.string x.name, .int .i64 x.cap.a, .int .i64 x.cap.b, .int .i64 x.cap.c, .int .i64 x.cap.d, .slice x.po x.pn x.pc]
abbrev Nde.val (x : Nde) : Value := .agg #[.string x.name, .int .i64 x.cap.a, .int .i64 x.cap.b, .int .i64 x.cap.c, .int .i64 x.cap.d, .slice x.po x.pn x.pc]
def Nde.zero : Nde := ⟨ByteArray.empty, V4.zero, none, 0, 0, []⟩
structure Nde.ok (w : World) (x : Nde) : Prop where
  parts : StrsAt w x.po x.pn x.parts
  ple : x.pn ≤ x.pc
theorem Nde.ok.low {w w' : World} {x : Nde} (h : x.ok w) (hb : Below w.heap.size w w') : x.ok w' := ⟨h.parts.low hb, h.ple⟩
theorem strs_none (w : World) : StrsAt w none 0 [] := ⟨rfl, by omega, fun i x h => by simp at h⟩
theorem Nde.zero_ok (w : World) : Nde.zero.ok w := ⟨strs_none w, Nat.le_refl _⟩
/-- a node as it is told -/
structure Ndv where
  name : ByteArray
  cap : V4
  parts : List ByteArray
def Nde.pl (x : Nde) : Ndv := ⟨x.name, x.cap, x.parts⟩

def words (s : ByteArray) : List ByteArray := (cutAll 32 s.data.toList).map ofL
def wrd (s : ByteArray) (k : Nat) : ByteArray := (words s).getD k ByteArray.empty
def nodeOk (s : ByteArray) : Prop := 3 ≤ (words s).length ∧ isName (wrd s 0) = true ∧ (∀ p, p ∈ (words s).drop 2 → isName p = true) ∧ (vecOf (wrd s 1)).2 = 0
instance (s : ByteArray) : Decidable (nodeOk s) := by unfold nodeOk; infer_instance
/-- the node of a line -/
def nodeOf (s : ByteArray) : Option Ndv := if nodeOk s then some ⟨wrd s 0, (vecOf (wrd s 1)).1, (words s).drop 2⟩ else none
theorem nodeOf_no {s : ByteArray} (h : ¬ nodeOk s) : nodeOf s = none := if_neg h
theorem nodeOf_yes {s : ByteArray} (h : nodeOk s) : nodeOf s = some ⟨wrd s 0, (vecOf (wrd s 1)).1, (words s).drop 2⟩ := if_pos h

theorem cutAll_le {x : UInt8} : ∀ {l p : List UInt8}, p ∈ cutAll x l → p.length ≤ l.length := by
  have key : ∀ (n : Nat) (l p : List UInt8), l.length ≤ n → p ∈ cutAll x l → p.length ≤ l.length := by
    intro n
    induction n with
    | zero =>
      intro l p h hp
      have : l = [] := List.length_eq_zero_iff.1 (by omega)
      subst this
      have : p = [] := by simpa [cutAll] using hp
      subst this; simp
    | succ n ih =>
      intro l p h hp
      rcases first_of x l with hc | ⟨a, r, rfl, h2⟩
      · rw [cutAll_no hc] at hp
        have : p = l := by simpa using hp
        rw [this]; exact Nat.le_refl _
      · rw [cutAll_hit h2] at hp
        simp at h
        rcases List.mem_cons.1 hp with rfl | hp
        · simp
        · have := ih r p (by omega) hp
          simp; omega
  exact fun {l p} hp => key l.length l p (Nat.le_refl _) hp
theorem cutAll_many {x : UInt8} (l : List UInt8) : (cutAll x l).length ≤ l.length + 1 := by
  induction l with
  | nil => simp [cutAll]
  | cons b l ih =>
    have := cutAll_pos x l
    unfold cutAll
    split
    · simp; omega
    · simp; omega
theorem words_le {s p : ByteArray} (h : p ∈ words s) : p.size ≤ s.size := by
  obtain ⟨l, hl, rfl⟩ := List.mem_map.1 h
  rw [ofL_size]; exact cutAll_le hl
theorem words_many (s : ByteArray) : (words s).length ≤ s.size + 1 := by
  unfold words; rw [List.length_map]; exact cutAll_many _
theorem wrd_at {s : ByteArray} {k : Nat} (h : k < (words s).length) : (words s)[k]? = some (wrd s k) := by
  unfold wrd; simp [List.getD, List.getElem?_eq_getElem h]
theorem wrd_le {s : ByteArray} {k : Nat} (h : k < (words s).length) : (wrd s k).size ≤ s.size := words_le (List.mem_of_getElem? (wrd_at h))

/-- what a line's node is -/
def NodePost (s : ByteArray) (w : World) (e : Ending) (w' : World) : Prop :=
  ∃ (x : Nde) (r : Int), e = .returned (.tuple #[x.val, .int .i64 r]) ∧ x.ok w' ∧ Below w.heap.size w w' ∧ (∀ b off, x.po = some ⟨b, off, none⟩ → w.heap.size ≤ b ∧ ∃ c, w'.heap[b]? = some (.cells c 9 (0, 0))) ∧ ((nodeOf s = none ∧ r = 50 ∧ x = Nde.zero) ∨ (nodeOf s = some x.pl ∧ r = 0))

/-- what stands behind the splitting -/
structure NdW (w : World) (s : ByteArray) (wr : World) : Prop where
  low : Below w.heap.size w wr
  mx : Mx wr
  res : wr.heap[w.heap.size]? = some (.cells Nde.zero.cells 48 (0, 0))
  row : wr.heap[w.heap.size + 1]? = some (.cells ((words s).map Value.string).toArray 9 (0, 0))
theorem NdW.below {w wr w' : World} {s : ByteArray} (h : NdW w s wr) (hb : Below wr.heap.size wr w') : NdW w s w' :=
  ⟨h.low.trans (hb.mono h.low.size), h.mx.low hb, blk_below hb h.res (blk_lt h.res), blk_below hb h.row (blk_lt h.row)⟩
theorem NdW.cell {w wr : World} {s : ByteArray} (h : NdW w s wr) {k : Nat} (hk : k < (words s).length) : wr.cell? ⟨w.heap.size + 1, k, none⟩ = some (.string (wrd s k)) := by
  rw [blk_cell h.row]; simp [wrd_at hk]

set_option maxRecDepth 100000 in
set_option maxHeartbeats 6400000 in
theorem node_any (s : ByteArray) (w : World) (hm : Mx w) (hs : s.size ≤ 4294967200) : Calls Tryd.prog 80 #[.string s] w (NodePost s w) := by
  obtain ⟨i9, hi9, hz9, hz91, hz92⟩ := info_parts info9
  obtain ⟨W0, hW0⟩ : ∃ W0, W0 = w.alloc (.cells Nde.zero.cells 48 (0, 0)) := ⟨_, rfl⟩
  have hb0 : Below w.heap.size w W0 := by rw [hW0]; exact (Below.refl _ _).alloc (Nat.le_refl _) _
  have hr0 : W0.heap[w.heap.size]? = some (.cells Nde.zero.cells 48 (0, 0)) := by rw [hW0]; exact blk_new _ _
  have hz0 : W0.heap.size = w.heap.size + 1 := by rw [hW0]; simp
  have hsp := split_call s 32 W0 (hm.low hb0) (by omega)
  rw [hW0] at hsp
  obtain ⟨L, hL⟩ : ∃ L, L = (words s).length := ⟨_, rfl⟩
  have hL' : (cutAll 32 s.data.toList).length = L := by rw [hL]; unfold words; rw [List.length_map]
  rw [hL'] at hsp
  have hLm := words_many s
  rw [← hL] at hLm
  replace hb0 := Lib.hid hb0; replace hr0 := Lib.hid hr0; replace hz0 := Lib.hid hz0; replace hsp := Lib.hid hsp; replace hL := Lib.hid hL; replace hm := Lib.hid hm; replace hL' := Lib.hid hL'
  have hW0' := Lib.hid hW0
  clear hW0
  go_enter Tryd.func80, Tryd.ntmps80
  go_wp2_with fail
  refine hsp.out.mono ?_
  rw [← hW0'.out]
  rintro e w1 ⟨rfl, hw1⟩
  have hV : NdW w s w1 := by
    have hb1 : Below W0.heap.size W0 w1 := by rw [hw1]; exact (Below.refl _ _).alloc (Nat.le_refl _) _
    refine ⟨hb0.out.trans (hb1.mono hb0.out.size), (hm.out.low hb0.out).low hb1, blk_below hb1 hr0.out (blk_lt hr0.out), ?_⟩
    rw [hw1, ← hz0.out]; exact blk_new _ _
  rw [hz0.out]
  replace hw1 := Lib.hid hw1; replace hV := Lib.hid hV
  by_cases h3 : L < 3
  · have d3 : decide ((L : Int) < 3) = true := decide_eq_true (by omega)
    have d3' : decide (L < 3) = true := decide_eq_true h3
    have hno : ¬ nodeOk s := fun h => by have := h.1; rw [← hL.out] at this; omega
    replace hno := Lib.hid hno
    have hz := nodeOf_no hno.out
    have cx := blk_cell (hV).out.res
    have fx := blk_free (hV).out.res
    have hlow := (hV).out.low
    replace hz := Lib.hid hz; replace hlow := Lib.hid hlow
    go_wp2
    refine bodyPost_ret (v := .tuple #[Nde.zero.val, .int .i64 50]) (by simp [results, Tryd.results80, go_sem, cx, Nde.zero, V4.zero]; rfl) rfl ⟨Nde.zero, 50, rfl, Nde.zero_ok _, ?_, fun b off e => (by cases e), .inl ⟨hz.out, rfl, rfl⟩⟩
    exact ((((((hlow.out).setCell (Nat.le_refl _) _).setCell (Nat.le_refl _) _).setCell (Nat.le_refl _) _).setCell (Nat.le_refl _) _).setCell (Nat.le_refl _) _).setCell (Nat.le_refl _) _
  have d3 : decide ((L : Int) < 3) = false := decide_eq_false (by omega)
  have d3' : decide (L < 3) = false := decide_eq_false h3
  have hL0 : 0 < L := by omega
  have hL0i : (0 : Int) < L := by omega
  have c0 := hV.out.cell (k := 0) (by rw [← hL.out]; omega)
  have hna := name_any (wrd s 0) w1 (by have := wrd_le (s := s) (k := 0) (by rw [← hL.out]; omega); have : maxLen = 9223372036854775807 := rfl; omega)
  obtain ⟨b0, hb0'⟩ : ∃ b0, b0 = isName (wrd s 0) := ⟨_, rfl⟩
  rw [← hb0'] at hna
  replace hna := Lib.hid hna; replace hb0' := Lib.hid hb0'
  go_wp2_with fail
  refine hna.out.mono ?_
  rintro e w2 ⟨rfl, hb2⟩
  have hV2 := hV.out.below hb2
  clear c0
  replace hb2 := Lib.hid hb2; replace hV2 := Lib.hid hV2
  cases b0 with
  | false =>
    have hno : ¬ nodeOk s := fun h => by have := h.2.1; rw [← hb0'.out] at this; cases this
    replace hno := Lib.hid hno
    have hz := nodeOf_no hno.out
    have cx := blk_cell (hV2).out.res
    have fx := blk_free (hV2).out.res
    have hlow := (hV2).out.low
    replace hz := Lib.hid hz; replace hlow := Lib.hid hlow
    go_wp2
    refine bodyPost_ret (v := .tuple #[Nde.zero.val, .int .i64 50]) (by simp [results, Tryd.results80, go_sem, cx, Nde.zero, V4.zero]; rfl) rfl ⟨Nde.zero, 50, rfl, Nde.zero_ok _, ?_, fun b off e => (by cases e), .inl ⟨hz.out, rfl, rfl⟩⟩
    exact ((((((hlow.out).setCell (Nat.le_refl _) _).setCell (Nat.le_refl _) _).setCell (Nat.le_refl _) _).setCell (Nat.le_refl _) _).setCell (Nat.le_refl _) _).setCell (Nat.le_refl _) _
  | true =>
  obtain ⟨ta, hsl, hta⟩ := slice_from (P := Tryd.prog) Tryd.underlying36 hi9 (w.heap.size + 1) L L 2 2 rfl (by omega)
  have hta' := hta (by omega)
  rw [hz91] at hta'
  subst hta'
  clear hta
  simp only [Nat.mul_one] at hsl
  have hV2' := hV2.out
  replace hV2' := Lib.hid hV2'
  go_wp2
  go_loopw [6, 25] (fun _ i wr => ∃ k : Nat, i = .int .i64 k ∧ k ≤ L - 2 ∧ Hid (∀ j, j < k → isName (wrd s (2 + j)) = true) ∧ Hid (NdW w s wr)) (fun _ i _ => (L - 2) - (intOf i).toNat)
  case atStart => exact ⟨0, rfl, Nat.zero_le _, fun j hj => absurd hj (Nat.not_lt_zero _), hV2'.out⟩
  case round =>
    obtain ⟨k, rfl, hk, hy, hV3⟩ := hrel
    by_cases hk1 : k < L - 2
    · have hc1 : (k : Int) < ((L - 2 : Nat) : Int) := by omega
      have hk0 : (0 : Int) ≤ (k : Int) := by omega
      have c2 := hV3.out.cell (k := 2 + k) (by rw [← hL.out]; omega)
      have hna := name_any (wrd s (2 + k)) wr (by have := wrd_le (s := s) (k := 2 + k) (by rw [← hL.out]; omega); have : maxLen = 9223372036854775807 := rfl; omega)
      obtain ⟨bk, hbk⟩ : ∃ bk, bk = isName (wrd s (2 + k)) := ⟨_, rfl⟩
      rw [← hbk] at hna
      replace hna := Lib.hid hna; replace hbk := Lib.hid hbk
      go_wp2_with fail
      refine hna.out.mono ?_
      rintro e w4 ⟨rfl, hb4⟩
      have hV4 := hV3.out.below hb4
      clear c2
      replace hb4 := Lib.hid hb4; replace hV4 := Lib.hid hV4
      cases bk with
      | false =>
        have hno : ¬ nodeOk s := fun h => by
          have := h.2.2.1 (wrd s (2 + k)) (List.mem_of_getElem? (by rw [List.getElem?_drop]; exact wrd_at (by rw [← hL.out]; omega)))
          rw [← hbk.out] at this; cases this
        replace hno := Lib.hid hno
        have hz := nodeOf_no hno.out
        have cx := blk_cell (hV4).out.res
        have fx := blk_free (hV4).out.res
        have hlow := (hV4).out.low
        replace hz := Lib.hid hz; replace hlow := Lib.hid hlow
        go_wp2
        refine bodyPost_ret (v := .tuple #[Nde.zero.val, .int .i64 50]) (by simp [results, Tryd.results80, go_sem, cx, Nde.zero, V4.zero]; rfl) rfl ⟨Nde.zero, 50, rfl, Nde.zero_ok _, ?_, fun b off e => (by cases e), .inl ⟨hz.out, rfl, rfl⟩⟩
        exact ((((((hlow.out).setCell (Nat.le_refl _) _).setCell (Nat.le_refl _) _).setCell (Nat.le_refl _) _).setCell (Nat.le_refl _) _).setCell (Nat.le_refl _) _).setCell (Nat.le_refl _) _
      | true =>
        have hy2 : ∀ j, j < k + 1 → isName (wrd s (2 + j)) = true := fun j hj => by
          by_cases c : j = k
          · rw [c]; exact hbk.out.symm
          · exact hy.out j (by omega)
        replace hy2 := Lib.hid hy2
        go_wp2
        go_roundw
        case rel => exact ⟨k + 1, by go_num, by omega, hy2.out, hV4.out⟩
        case measure => simp [intOf]; omega
    · have hc1 : ¬ (k : Int) < ((L - 2 : Nat) : Int) := by omega
      have hall : ∀ p, p ∈ (words s).drop 2 → isName p = true := fun p hp => by
        obtain ⟨j, hj, e⟩ := List.getElem_of_mem hp
        rw [List.length_drop, ← hL.out] at hj
        have h1 := hy.out j (by omega)
        rw [List.getElem_drop] at e
        have h2 := wrd_at (s := s) (k := 2 + j) (by rw [← hL.out]; omega)
        rw [List.getElem?_eq_getElem (by rw [← hL.out]; omega)] at h2
        have h3 : p = wrd s (2 + j) := by rw [← e]; exact Option.some.inj h2
        rw [h3]; exact h1
      have hL1 : 1 < L := by omega
      have hL1i : (1 : Int) < L := by omega
      have c1 := hV3.out.cell (k := 1) (by rw [← hL.out]; omega)
      have hvr := vread_any (wrd s 1) wr hV3.out.mx (by have := wrd_le (s := s) (k := 1) (by rw [← hL.out]; omega); omega)
      obtain ⟨u, hu⟩ : ∃ u : V4, u = (vecOf (wrd s 1)).1 := ⟨_, rfl⟩
      obtain ⟨r, hr⟩ : ∃ r : Int, r = (vecOf (wrd s 1)).2 := ⟨_, rfl⟩
      rw [← hu, ← hr] at hvr
      replace hall := Lib.hid hall; replace hvr := Lib.hid hvr; replace hu := Lib.hid hu; replace hr := Lib.hid hr
      go_wp2_with fail
      refine hvr.out.mono ?_
      rintro e w5 ⟨rfl, hb5⟩
      have hV5 := hV3.out.below hb5
      clear c1
      replace hb5 := Lib.hid hb5; replace hV5 := Lib.hid hV5
      by_cases hr0' : r = 0
      · have dr : (r != 0) = false := by simp [hr0']
        have hyes : nodeOk s := ⟨by rw [← hL.out]; omega, hb0'.out.symm, hall.out, by rw [← hr.out]; exact hr0'⟩
        have hz := nodeOf_yes hyes
        obtain ⟨W6, hW6⟩ : ∃ W6, W6 = w5.alloc (.cells u.cells 25 (0, 0)) := ⟨_, rfl⟩
        have hV6 : NdW w s W6 := by rw [hW6]; exact hV5.out.below ((Below.refl _ _).alloc (Nat.le_refl _) (.cells u.cells 25 (0, 0)))
        have c0 := hV6.cell (k := 0) (by rw [← hL.out]; omega)
        have hux : W6.heap[w5.heap.size]? = some (.cells u.cells 25 (0, 0)) := by rw [hW6]; exact blk_new _ _
        have cx := blk_cell hV6.res
        have fx := blk_free hV6.res
        have q0 := blk_cell hux 0
        have q1 := blk_cell hux 1
        have q2 := blk_cell hux 2
        have q3 := blk_cell hux 3
        simp at q0 q1 q2 q3
        replace hyes := Lib.hid hyes; replace hz := Lib.hid hz; replace hV6 := Lib.hid hV6; replace hux := Lib.hid hux; replace hr0' := Lib.hid hr0'
        have hW6' := Lib.hid hW6
        clear hW6
        go_upto_region 13 with fail
        rw [← hW6'.out]
        go_still_tail 7, (by kernel_rfl)
        change wpList _ _ _ _ _ W6.drew
        have hrow9 : ∀ v0 v1 v2 v3 v4 v5, (((((((W6.setCell ⟨w.heap.size, 0, none⟩ v0).setCell ⟨w.heap.size, 1, none⟩ v1).setCell ⟨w.heap.size, 2, none⟩ v2).setCell ⟨w.heap.size, 3, none⟩ v3).setCell ⟨w.heap.size, 4, none⟩ v4).setCell ⟨w.heap.size, 5, none⟩ v5).drew).heap[w.heap.size + 1]? = some (.cells ((words s).map Value.string).toArray 9 (0, 0)) := fun v0 v1 v2 v3 v4 v5 =>
          blk_drew (blk_set_other (by omega) _ (blk_set_other (by omega) _ (blk_set_other (by omega) _ (blk_set_other (by omega) _ (blk_set_other (by omega) _ (blk_set_other (by omega) _ hV6.out.row))))))
        have hlow9 : ∀ v0 v1 v2 v3 v4 v5, Below w.heap.size w (((((((W6.setCell ⟨w.heap.size, 0, none⟩ v0).setCell ⟨w.heap.size, 1, none⟩ v1).setCell ⟨w.heap.size, 2, none⟩ v2).setCell ⟨w.heap.size, 3, none⟩ v3).setCell ⟨w.heap.size, 4, none⟩ v4).setCell ⟨w.heap.size, 5, none⟩ v5).drew) := fun v0 v1 v2 v3 v4 v5 =>
          (((((((hV6.out.low).setCell (Nat.le_refl _) _).setCell (Nat.le_refl _) _).setCell (Nat.le_refl _) _).setCell (Nat.le_refl _) _).setCell (Nat.le_refl _) _).setCell (Nat.le_refl _) _).drew
        replace hrow9 := Lib.hid hrow9; replace hlow9 := Lib.hid hlow9
        go_wp2
        refine bodyPost_ret (v := .tuple #[(⟨wrd s 0, u, some ⟨w.heap.size + 1, 2, none⟩, L - 2, L - 2, (words s).drop 2⟩ : Nde).val, .int .i64 0]) (by simp [results, Tryd.results80, go_sem, cx]) rfl ⟨⟨wrd s 0, u, some ⟨w.heap.size + 1, 2, none⟩, L - 2, L - 2, (words s).drop 2⟩, 0, rfl, ⟨?_, Nat.le_refl _⟩, hlow9.out _ _ _ _ _ _, fun b off e => (by cases e; exact ⟨by omega, _, hrow9.out _ _ _ _ _ _⟩), .inr ⟨by rw [hz.out, ← hu.out]; rfl, rfl⟩⟩
        have h := (strs_of_blk (hrow9.out (.string (wrd s 0)) (.int .i64 u.a) (.int .i64 u.b) (.int .i64 u.c) (.int .i64 u.d) (.slice (some ⟨w.heap.size + 1, 2, none⟩) (L - 2) (L - 2))) (by rw [← hL.out]; omega)).sub 2 (by rw [← hL.out]; omega)
        rw [Nat.zero_add, ← hL.out] at h
        exact h
      · have dr : (r != 0) = true := by simp [hr0']
        have hno : ¬ nodeOk s := fun h => by have := h.2.2.2; rw [← hr.out] at this; exact hr0' this
        have hV6 := hV5.out.below ((Below.refl _ _).alloc (Nat.le_refl _) (.cells u.cells 25 (0, 0)))
        replace hno := Lib.hid hno; replace hV6 := Lib.hid hV6; replace hr0' := Lib.hid hr0'
        have hz := nodeOf_no hno.out
        have cx := blk_cell (hV6).out.res
        have fx := blk_free (hV6).out.res
        have hlow := (hV6).out.low
        replace hz := Lib.hid hz; replace hlow := Lib.hid hlow
        go_wp2
        refine bodyPost_ret (v := .tuple #[Nde.zero.val, .int .i64 50]) (by simp [results, Tryd.results80, go_sem, cx, Nde.zero, V4.zero]; rfl) rfl ⟨Nde.zero, 50, rfl, Nde.zero_ok _, ?_, fun b off e => (by cases e), .inl ⟨hz.out, rfl, rfl⟩⟩
        exact ((((((hlow.out).setCell (Nat.le_refl _) _).setCell (Nat.le_refl _) _).setCell (Nat.le_refl _) _).setCell (Nat.le_refl _) _).setCell (Nat.le_refl _) _).setCell (Nat.le_refl _) _
end Go.Proofs.YteoihdkaoipocaaDoor

/- A fleet in memory: its nodes' row and its map of names. -/
namespace Go.Proofs.YteoihdkaoipocaaDoor
open Go.RowKit Go.Maps

/-- things laid one behind the other -/
def flatv {α : Type} (cells : α → Array Value) (xs : List α) : List Value := xs.flatMap fun x => (cells x).toList
theorem flatv_append {α : Type} (cells : α → Array Value) (xs ys : List α) : flatv cells (xs ++ ys) = flatv cells xs ++ flatv cells ys := by simp [flatv]
theorem flatv_one {α : Type} (cells : α → Array Value) (x : α) : flatv cells [x] = (cells x).toList := by simp [flatv]
theorem flatv_get {α : Type} {cells : α → Array Value} {sz : Nat} (hsz : ∀ x, (cells x).size = sz) (xs : List α) {i j : Nat} {x : α} (hx : xs[i]? = some x) (hj : j < sz) : (flatv cells xs)[i * sz + j]? = (cells x)[j]? := by
  induction xs generalizing i with
  | nil => simp at hx
  | cons y ys ih =>
    have hy := hsz y
    rw [show flatv cells (y :: ys) = (cells y).toList ++ flatv cells ys from by simp [flatv]]
    cases i with
    | zero =>
      have e : x = y := by simpa using hx.symm
      subst e
      rw [List.getElem?_append_left (by simp; omega)]
      simp
    | succ i =>
      have hx' : ys[i]? = some x := by simpa using hx
      rw [List.getElem?_append_right (by simp [hy, Nat.add_mul]; omega)]
      have := ih hx'
      rw [show (i + 1) * sz + j - (cells y).toList.length = i * sz + j by simp [hy, Nat.add_mul]; omega, this]
theorem nde_size (x : Nde) : x.cells.size = 6 := rfl

/-- what a row of names reads as, each with its place -/
abbrev DU := DataW Unit
def keyB (s : ByteArray) : Lit := .string s.data.toList
def mapD (ns : List ByteArray) : DU := (ns.zipIdx).foldl (fun m p => m.put (keyB p.1) (.lit (.int .i64 (p.2 : Int)))) (.map [])
theorem mapD_snoc (ns : List ByteArray) (x : ByteArray) : mapD (ns ++ [x]) = (mapD ns).put (keyB x) (.lit (.int .i64 (ns.length : Int))) := by
  unfold mapD
  rw [List.zipIdx_append, List.foldl_append]
  simp
theorem keyB_inj {a b : ByteArray} (h : keyB a = keyB b) : a = b := by
  unfold keyB at h
  injection h with h
  exact toL_inj h
theorem keyB_lit (s : ByteArray) : WideAt.IsKeyLit (keyB s) := trivial
theorem rev_ind {α : Type} {p : List α → Prop} (h0 : p []) (h1 : ∀ l x, p l → p (l ++ [x])) : ∀ l, p l := by
  intro l
  have key : ∀ n (l : List α), l.length = n → p l := by
    intro n
    induction n with
    | zero => intro l hl; rw [List.length_eq_zero_iff.1 hl]; exact h0
    | succ n ih =>
      intro l hl
      cases h : l.reverse with
      | nil => have := congrArg List.length h; simp at this; rw [this] at hl; cases hl
      | cons x r =>
        have e : l = r.reverse ++ [x] := by rw [← List.reverse_reverse l, h]; simp
        rw [e] at hl ⊢
        exact h1 _ _ (ih _ (by simpa using hl))
  exact key _ l rfl
theorem mapD_isMap (ns : List ByteArray) : IsMap (mapD ns) := by
  induction ns using rev_ind with
  | h0 => exact isMap_empty
  | h1 l x ih => rw [mapD_snoc]; exact ih.put _ _
theorem mapD_has (ns : List ByteArray) (s : ByteArray) : has (mapD ns) (keyB s) = true ↔ s ∈ ns := by
  induction ns using rev_ind with
  | h0 => simp [mapD, has]
  | h1 l x ih =>
    rw [mapD_snoc]
    by_cases e : s = x
    · subst e
      rw [has_put_same (mapD_isMap l) (keyB_lit _)]; simp
    · rw [has_put_other (fun c => e (keyB_inj c)), ih]
      simp [e]
theorem mapD_at (ns : List ByteArray) (s : ByteArray) (i : Nat) (hi : ns[i]? = some s) (hl : ∀ j, i < j → ns[j]? ≠ some s) (z : DU) : (mapD ns).atKey (keyB s) z = .lit (.int .i64 (i : Int)) := by
  induction ns using rev_ind with
  | h0 => simp at hi
  | h1 l x ih =>
    rw [mapD_snoc]
    have hlen := (List.getElem?_eq_some_iff.1 hi).1
    simp at hlen
    by_cases c : i = l.length
    · have e : s = x := by rw [c] at hi; simpa using hi.symm
      subst e
      rw [atKey_put_same (mapD_isMap l) (keyB_lit _), c]
    · have hx : s ≠ x := fun e => hl l.length (by omega) (by rw [e]; simp)
      rw [atKey_put_other (fun c => hx (keyB_inj c))]
      refine ih (by rw [List.getElem?_append_left (by omega)] at hi; exact hi) fun j hj h => ?_
      have hjl := (List.getElem?_eq_some_iff.1 h).1
      exact hl j hj (by rw [List.getElem?_append_left hjl]; exact h)

/-- a node's parts lie in a row of texts -/
def PartsAt (W : World) (x : Nde) : Prop := ∀ b off, x.po = some ⟨b, off, none⟩ → ∃ c, W.heap[b]? = some (.cells c 9 (0, 0))
/-- a fleet in memory -/
structure FlW (W : World) (fb mb base : Nat) (nv : Value) (xs : List Nde) : Prop where
  head : W.heap[fb]? = some (.cells #[nv, .map (some mb)] 107 (0, 0))
  row : W.ownsRow base 48 6 nv xs.length (flatv Nde.cells xs)
  map : W.ownsMap Tryd.prog 9 (plainElem (H := Unit) Tryd.prog 3) mb xs.length (mapD (xs.map Nde.name))
  ok : ∀ x, x ∈ xs → x.ok W ∧ PartsAt W x
theorem strs_keep {w w' : World} {so : Option Addr} {n : Nat} {xs : List ByteArray} (h : StrsAt w so n xs) (hsz : w.heap.size ≤ w'.heap.size) (hb : ∀ b off, so = some ⟨b, off, none⟩ → b < w.heap.size → w'.heap[b]? = w.heap[b]?) : StrsAt w' so n xs :=
  ⟨h.len, h.max, fun i x hx => by
    obtain ⟨b, off, e, hlt, hc⟩ := h.cell i x hx
    exact ⟨b, off, e, by omega, (World.cell?_of_block (a := ⟨b, off + i, none⟩) (w := w) (hb b off e hlt)).trans hc⟩⟩
theorem FlW.below {w w' : World} {fb mb base : Nat} {nv : Value} {xs : List Nde} (h : FlW w fb mb base nv xs) (hb : Below w.heap.size w w') : FlW w' fb mb base nv xs := by
  refine ⟨blk_below hb h.head (blk_lt h.head), ⟨h.row.1, ?_⟩, ?_, fun x hx => ⟨(h.ok x hx).1.low hb, fun b off e => ?_⟩⟩
  · rcases h.row.2 with h | ⟨g, cap, cur, hv, hg, hh, hr⟩
    · exact .inl h
    · exact .inr ⟨g, cap, cur, hv, hg, blk_below hb hh (blk_lt hh), hr⟩
  · exact h.map.kept (row := none) ⟨hb.os, hb.tape, hb.output, hb.size, fun k hk _ => hb.block k hk⟩ (by simp)
  · obtain ⟨c, hc⟩ := (h.ok x hx).2 b off e
    exact ⟨c, blk_below hb hc (blk_lt hc)⟩
theorem FlW.cell {W : World} {fb mb base : Nat} {nv : Value} {xs : List Nde} (h : FlW W fb mb base nv xs) {k : Nat} {x : Nde} (hx : xs[k]? = some x) : ∃ g, nv.ownBlock = some g ∧ g < W.heap.size ∧ base ≤ g ∧ ∀ j, j < 6 → W.cell? ⟨g, k * 6 + j, none⟩ = (x.cells)[j]? := by
  have hk := (List.getElem?_eq_some_iff.1 hx).1
  rcases h.row.2 with ⟨hv, h0⟩ | ⟨g, cap, cur, hv, hg, hh, hr⟩
  · have : xs.length = 0 := h0
    omega
  · subst hv
    refine ⟨g, rfl, blk_lt hh, hg, fun j hj => ?_⟩
    rw [World.ownsRow.cellAt h.row (k * 6 + j) (by
      have : (k + 1) * 6 ≤ xs.length * 6 := Nat.mul_le_mul_right _ (by omega)
      omega), flatv_get nde_size xs hx hj]
end Go.Proofs.YteoihdkaoipocaaDoor

/- (*fleet.Fleet).put: a node behind the others. -/
namespace Go.Proofs.YteoihdkaoipocaaDoor
open Go.RowKit Go.Maps

instance decBA : DecidableEq ByteArray := fun a b => decidable_of_iff (a.data.toList = b.data.toList) ⟨toL_inj, fun h => by rw [h]⟩
def memB (ns : List ByteArray) (s : ByteArray) : Bool := ns.any fun n => decide (n = s)
theorem memB_iff {ns : List ByteArray} {s : ByteArray} : memB ns s = true ↔ s ∈ ns := by
  unfold memB
  rw [List.any_eq_true]
  exact ⟨fun ⟨x, h1, h2⟩ => by rw [← of_decide_eq_true h2]; exact h1, fun h => ⟨s, h, decide_eq_true rfl⟩⟩
/-- does one text of a row stand there twice? -/
def twiceL : List ByteArray → Bool
  | [] => false
  | p :: ps => memB ps p || twiceL ps
/-- what a put answers -/
def putE (ns : List ByteArray) (m : Nat) (name : ByteArray) (parts : List ByteArray) : Int :=
  if memB ns name = true then 51 else if twiceL parts = true then 51 else if 16 ≤ m ∨ 8 < parts.length then 2 else 0
/-- what a put keeps -/
structure PutK (fb mb base lo : Nat) (w w' : World) : Prop where
  low : Below lo w w'
  same : ∀ (k : Nat) (o : Obj), w.heap[k]? = some o → k ≠ mb → k ≠ fb → (k < base ∨ ∀ c fr, o ≠ .cells c 48 fr) → w'.heap[k]? = some o
theorem zero3 (w : World) : (zeroValue 3).run Tryd.prog w = .ok (.int .i64 0) w := by kernel_rfl
theorem fl_look {w : World} {fb mb base : Nat} {nv : Value} {xs : List Nde} (h : FlW w fb mb base nv xs) (s : ByteArray) (hs : s.size ≤ maxLen) :
    ∃ c, (Instr.lookup 88 (.map (some mb)) (.string s) true).run Tryd.prog w = .ok (.tuple #[.int .i64 c, .bool (has (mapD (xs.map Nde.name)) (keyB s))]) w ∧ (mapD (xs.map Nde.name)).atKey (keyB s) (.lit (.int .i64 0)) = .lit (.int .i64 c) := by
  obtain ⟨v, ps, h1, h2⟩ := h.map.look_ok (string_keyed Tryd.underlying9) Tryd.underlying88 (zero3 w) (plainElem_int Tryd.underlying3 (by decide)) (WideMaps.keyOf_string_mk Tryd.underlying9 hs)
  obtain ⟨c, rfl, hc, _⟩ := plainElem_int_inv Tryd.underlying3 h2
  exact ⟨c, h1, congrArg Prod.fst hc⟩

theorem slice_upto_g {P : Program} {t e : TypeId} {i : TypeInfo} (hU : P.underlying t = some (.slice e)) (hi : P.info? e = some i) (ad : Addr) (len cap n : Nat) (x : Int) (hx : x = n) (hn : n ≤ cap) (w : World) :
    (Instr.slice t (.slice (some ad) len cap) none (some (.int .i64 x)) none).run P w = .ok (.slice (some ad) n cap) w := by
  subst hx
  have h1 : ∀ (y : Nat) (_ : n ≤ y) c, (Instr.sliceBound (.int .i64 (n : Int)) y c).run P w = .ok n w := fun y h c => by
    simp [Instr.sliceBound, asIntOf, h]
  simp [Instr.slice, Instr.sliceBounds, run_underlying hU, h1 cap hn, sizeOf, typeInfo, hi, Addr.add]
/-- do two of the first k texts agree? -/
def DupTo (l : List ByteArray) (k : Nat) : Prop := ∃ i j s, j < i ∧ i < k ∧ l[i]? = some s ∧ l[j]? = some s
theorem twiceL_iff (l : List ByteArray) : twiceL l = true ↔ DupTo l l.length := by
  induction l with
  | nil => exact ⟨fun h => (by cases h), fun ⟨i, j, s, h1, h2, _⟩ => absurd h2 (Nat.not_lt_zero _)⟩
  | cons p ps ih =>
    unfold twiceL
    rw [Bool.or_eq_true, ih, memB_iff]
    constructor
    · rintro (h | ⟨i, j, s, h1, h2, h3, h4⟩)
      · obtain ⟨i, hi, e⟩ := List.getElem_of_mem h
        exact ⟨i + 1, 0, p, by omega, by simp; omega, by simp [List.getElem?_eq_getElem hi, e], by simp⟩
      · exact ⟨i + 1, j + 1, s, by omega, by simp; omega, by simpa using h3, by simpa using h4⟩
    · rintro ⟨i, j, s, h1, h2, h3, h4⟩
      cases i with
      | zero => omega
      | succ i =>
        simp at h2 h3
        cases j with
        | zero => simp at h4; subst h4; exact .inl (List.mem_of_getElem? h3)
        | succ j => simp at h4; exact .inr ⟨i, j, s, by omega, h2, h3, h4⟩
theorem six_pos : 0 < 6 := Nat.succ_pos _
theorem info48 : (Tryd.prog.info? 48).map (fun i => (i.zero, i.size, i.bytes)) = some (some (.agg #[.string ByteArray.empty, .int .i64 0, .int .i64 0, .int .i64 0, .int .i64 0, .slice none 0 0]), 6, 72) := by kernel_rfl
theorem nde_one (x : Nde) : ∀ u ∈ x.cells.toList, u.oneCell' = true := by simp [Value.oneCell']
theorem fl_map_ne {w : World} {fb mb base k : Nat} {nv : Value} {xs : List Nde} {c : Array Value} {T : TypeId} {fr : Nat × Nat} (h : FlW w fb mb base nv xs) (hk : w.heap[k]? = some (.cells c T fr)) : k ≠ mb := fun e => by
  obtain ⟨es, clock, hb, _⟩ := h.map
  rw [e, hb] at hk; cases hk
theorem nde_new (w : World) (x : Nde) : ∀ j u, x.cells.toList[j]? = some u → (w.alloc (.cells x.cells 48 (0, 0))).cell? ((⟨w.heap.size, 0, none⟩ : Addr).add j) = some u := by
  intro j u hu
  rw [Addr.add_lit, Nat.zero_add, blk_cell (blk_new w _) j]
  simpa using hu
theorem owns_block {w : World} {base size n g : Nat} {e : TypeId} {v : Value} {xs : List Value} (h : w.ownsRow base e size v n xs) (hg : v.ownBlock = some g) : ∃ cur, w.heap[g]? = some (.cells cur e (0, 0)) := by
  rcases h.2 with ⟨hv, _⟩ | ⟨g', cap, cur, hv, _, hh, _⟩
  · rw [hv] at hg; simp [Value.ownBlock] at hg
  · rw [hv] at hg
    have e' : g' = g := by simpa [Value.ownBlock] using hg
    subst e'
    exact ⟨cur, hh⟩
theorem PutK.of_low {fb mb base lo : Nat} {w w' : World} (h : Below w.heap.size w w') (hb : lo ≤ w.heap.size) : PutK fb mb base lo w w' :=
  ⟨h.mono hb, fun _ _ hk _ _ _ => blk_below h hk (blk_lt hk)⟩
structure PtC (base fb : Nat) (w5 : World) (X : Nde) (nv : Value) (n : Nat) (xs : List Nde) (wx : World) : Prop where
  ex : ∃ v1 w9, w9.ownsRow base 48 6 v1 (n + 1) (flatv Nde.cells xs ++ X.cells.toList) ∧ ((w5.alloc (.cells X.cells 48 (0, 0))).drew).grownBy w9 nv.ownBlock ∧ wx = w9.setCell ⟨fb, 0, none⟩ v1
theorem step_append_own1 {P : Program} {ops : Array Oper} {o : Oper} {a : Act} {w : World} {K : Act → World → Prop} {Q : Exit → Act → World → Prop} {E : Prop} (hgd : o.guard = none) (s x : Operand) (t : TypeId)
    (ho : o.op = .call { callee := .builtin .append, args := #[s, x], argTypes := #[t, t] })
    (base : Nat) (e : TypeId) (i : TypeInfo) (z : Value) (size bytes : Nat) (ht : P.underlying t = some (.slice e)) (hi : P.info? e = some i) (hz : i.zero = some z)
    (hsize : i.size = size) (hby : i.bytes = bytes) (hzs : z.cells.size = size) (hsz : 0 < size)
    (v : Value) (n : Nat) (xs : List Value) (hs : a.eval s = v) (hown : w.ownsRow base e size v n xs)
    (ad : Addr) (c : Nat) (news : List Value) (hx : a.eval x = .slice (some ad) 1 c) (hl : news.length = 1 * size) (hnews : ∀ j u, news[j]? = some u → w.cell? (ad.add j) = some u) (h1 : ∀ u ∈ news, u.oneCell' = true)
    (h63 : n + 1 ≤ maxLen) (hbytes : (n + 1) * bytes ≤ 140737488355328) (hbase : base ≤ w.heap.size)
    (h : ∀ g cap w', w'.ownsRow base e size (.slice (some ⟨g, 0, none⟩) (n + 1) cap) (n + 1) (xs ++ news) → w.grownBy w' v.ownBlock → K (a.put o.dst (.slice (some ⟨g, 0, none⟩) (n + 1) cap)) w') :
    if Region.wanted o (yielded ops a.tmps) = true then Oper.wp P o a w K Q else E := by
  have hw : Region.wanted o (yielded ops a.tmps) = true := by simp [Region.wanted, hgd]
  rw [if_pos hw]
  exact wp_append_own w s x t ho base e i z size bytes ht hi hz hsize hby hzs hsz v n xs hs hown ad 1 c news hx hl hnews h1 h63 hbytes hbase fun v' w' h2 h3 _ => by
    obtain ⟨g, cap, rfl⟩ := Joins.ownsRow_form h2 (Nat.succ_pos _)
    exact h g cap w' h2 h3

structure TwC (W2 : World) (tb : Bool) (tv : Value) (wx : World) : Prop where
  tv : tv = .bool tb
  wx : wx = W2
structure LkC (W1 : World) (c : Int) (b : Bool) (cv bv : Value) (wx : World) : Prop where
  cv : cv = .int .i64 c
  bv : bv = .bool b
  wx : wx = W1.drew
theorem owns_setT {w : World} {base size n b : Nat} {e T : TypeId} {v : Value} {xs : List Value} {o : Array Value} (h : w.ownsRow base e size v n xs) (hb : w.heap[b]? = some (.cells o T (0, 0))) (hT : T ≠ e) (off : Nat) (u : Value) : (w.setCell ⟨b, off, none⟩ u).ownsRow base e size v n xs := by
  obtain ⟨h1, h2⟩ := h
  refine ⟨h1, ?_⟩
  rcases h2 with h | ⟨g, cap, cur, hv, hg, hh, hr⟩
  · exact .inl h
  · have hne : g ≠ b := fun c => by rw [c, hb] at hh; simp at hh; exact hT hh.2
    exact .inr ⟨g, cap, cur, hv, hg, blk_set_other hne _ hh, hr⟩
theorem put_end {w wc w5 w9 : World} {fb mb base lo n : Nat} {nv v1 : Value} {xs : List Nde} {x : Nde} (hF : FlW wc fb mb base nv xs) (hn : n = xs.length) (hbf : lo ≤ fb) (hbm : lo ≤ mb) (hlo : lo ≤ base) (hg5 : wc.drew.grownBy w5 (some mb))
    (hm5 : w5.ownsMap Tryd.prog 9 (plainElem (H := Unit) Tryd.prog 3) mb (n + 1) ((mapD (xs.map Nde.name)).put (keyB x.name) (.lit (.int .i64 (n : Int)))))
    (hg9 : ((w5.alloc (.cells x.cells 48 (0, 0))).drew).grownBy w9 nv.ownBlock) (ho9 : w9.ownsRow base 48 6 v1 (n + 1) (flatv Nde.cells xs ++ x.cells.toList)) (h9 : w9.heap[fb]? = some (.cells #[nv, .map (some mb)] 107 (0, 0)))
    (hx : x.ok wc) (hp : PartsAt wc x) (hbs : base ≤ w.heap.size) (hlow : Below w.heap.size w wc) :
    FlW (w9.setCell ⟨fb, 0, none⟩ v1) fb mb base v1 (xs ++ [x]) ∧ PutK fb mb base lo w (w9.setCell ⟨fb, 0, none⟩ v1) := by
  have hs5 : wc.heap.size ≤ w5.heap.size := hg5.size
  have hs9 : w5.heap.size + 1 ≤ w9.heap.size := by
    have := hg9.size
    rw [show ((w5.alloc (.cells x.cells 48 (0, 0))).drew).heap.size = w5.heap.size + 1 from World.size_alloc _ _] at this
    exact this
  have hown : ∀ k, nv.ownBlock = some k → base ≤ k ∧ ∃ cur, wc.heap[k]? = some (.cells cur 48 (0, 0)) := fun k e => ⟨(hF.row.lt k e).1, owns_block hF.row e⟩
  have keep : ∀ (k : Nat) (o : Obj), wc.heap[k]? = some o → k ≠ mb → k ≠ fb → (k < base ∨ ∀ c fr, o ≠ .cells c 48 fr) → (w9.setCell ⟨fb, 0, none⟩ v1).heap[k]? = some o := fun k o hk h1 h2 h3 => by
    have hlt := blk_lt hk
    refine blk_set_other h2 _ ?_
    refine (hg9.block k (by show k < (w5.alloc _).heap.size; rw [World.size_alloc]; omega) (fun e => ?_)).trans (blk_old _ ((hg5.block k hlt (fun e => h1 (by cases e; rfl))).trans hk))
    obtain ⟨e1, cur, e2⟩ := hown k e.symm
    rcases h3 with h3 | h3
    · omega
    · rw [hk] at e2
      exact h3 _ _ (Option.some.inj e2)
  have hsz : wc.heap.size ≤ (w9.setCell ⟨fb, 0, none⟩ v1).heap.size := by
    have : (w9.setCell ⟨fb, 0, none⟩ v1).heap.size = w9.heap.size := by simp [World.setCell]
    omega
  have hpart : ∀ y : Nde, y.ok wc → PartsAt wc y → y.ok (w9.setCell ⟨fb, 0, none⟩ v1) ∧ PartsAt (w9.setCell ⟨fb, 0, none⟩ v1) y := fun y hy hyp => by
    have key : ∀ b off, y.po = some ⟨b, off, none⟩ → ∃ c, wc.heap[b]? = some (.cells c 9 (0, 0)) ∧ (w9.setCell ⟨fb, 0, none⟩ v1).heap[b]? = some (.cells c 9 (0, 0)) := fun b off e => by
      obtain ⟨c, hc⟩ := hyp b off e
      refine ⟨c, hc, keep b _ hc (fl_map_ne hF hc) (fun e => ?_) (.inr fun c' fr e => by injection e with e1 e2 e3; exact absurd e2 (by decide))⟩
      rw [e, hF.head] at hc
      simp at hc
    refine ⟨⟨strs_keep hy.parts hsz fun b off e _ => ?_, hy.ple⟩, fun b off e => ?_⟩
    · obtain ⟨c, h1, h2⟩ := key b off e
      rw [h1, h2]
    · obtain ⟨c, _, h2⟩ := key b off e
      exact ⟨c, h2⟩
  refine ⟨⟨by rw [blk_set h9]; rfl, ?_, ?_, fun y hy => ?_⟩, ?_, fun k o hk h1 h2 h3 => keep k o (blk_below hlow hk (blk_lt hk)) h1 h2 h3⟩
  · have := owns_setT ho9 h9 (by decide) 0 v1
    rw [flatv_append, flatv_one, List.length_append, ← hn]
    exact this
  · rw [List.map_append, List.length_append, ← hn]
    have hmp := ((hm5.alloc (.cells x.cells 48 (0, 0))).drew.kept hg9 (fun e => by
      obtain ⟨_, cur, e2⟩ := hown mb e.symm
      exact fl_map_ne hF e2 rfl)).setCell (a := ⟨fb, 0, none⟩) (fun e => fl_map_ne hF hF.head e.symm) v1
    rw [show List.map Nde.name [x] = [x.name] from rfl, mapD_snoc, List.length_map, ← hn]
    exact hmp
  · rcases List.mem_append.1 hy with h | h
    · exact hpart y (hF.ok y h).1 (hF.ok y h).2
    · have : y = x := by simpa using h
      subst this
      exact hpart y hx hp
  · have hle : base ≤ wc.heap.size := Nat.le_trans hbs hlow.size
    have hle' : lo ≤ wc.heap.size := Nat.le_trans hlo hle
    have b1 : Below lo w wc.drew := (hlow.mono (Nat.le_trans hlo hbs)).drew
    have b2 : Below lo w w5 := b1.grown hg5 hle' (fun k e => by cases e; exact hbm)
    have b3 : Below lo w ((w5.alloc (.cells x.cells 48 (0, 0))).drew) := (b2.alloc (Nat.le_trans hle' hs5) _).drew
    have b4 : Below lo w w9 := b3.grown hg9 (by
      show lo ≤ (w5.alloc (.cells x.cells 48 (0, 0))).heap.size
      rw [World.size_alloc]; omega) (fun k e => Nat.le_trans hlo (hF.row.lt k e).1)
    exact b4.setCell hbf _
set_option maxRecDepth 100000 in
set_option maxHeartbeats 6400000 in
theorem put_any (w : World) (fb mb base lo : Nat) (nv : Value) (xs : List Nde) (x : Nde) (hF : FlW w fb mb base nv xs) (hx : x.ok w) (hp : PartsAt w x) (hn : x.name.size ≤ maxLen) (hpl : x.pn ≤ 4294967296) (hbf : lo ≤ fb) (hbm : lo ≤ mb) (hlo : lo ≤ base) (hbase : base ≤ w.heap.size) :
    Calls Tryd.prog 81 #[.pointer (some ⟨fb, 0, none⟩), x.val] w fun e w' => ∃ nv', e = .returned (.int .i64 (putE (xs.map Nde.name) xs.length x.name x.parts)) ∧ FlW w' fb mb base nv' (if putE (xs.map Nde.name) xs.length x.name x.parts = 0 then xs ++ [x] else xs) ∧ PutK fb mb base lo w w' := by
  obtain ⟨i9, hi9, hz9, hz91, hz92⟩ := info_parts info9
  obtain ⟨nm, cp, po, pn, pc, ps⟩ := x
  obtain ⟨W1, hW1⟩ : ∃ W1, W1 = w.alloc (.cells (⟨nm, cp, po, pn, pc, ps⟩ : Nde).cells 48 (0, 0)) := ⟨_, rfl⟩
  have hb1 : Below w.heap.size w W1 := by rw [hW1]; exact (Below.refl _ _).alloc (Nat.le_refl _) _
  have hF1 := hF.below hb1
  have hx1 : W1.heap[w.heap.size]? = some (.cells (⟨nm, cp, po, pn, pc, ps⟩ : Nde).cells 48 (0, 0)) := by rw [hW1]; exact blk_new _ _
  have hF1d : FlW W1.drew fb mb base nv xs := hF1.below ((Below.refl _ _).drew)
  obtain ⟨c, hlk, hat⟩ := fl_look hF1d nm hn
  obtain ⟨b, hb⟩ : ∃ b, b = has (mapD (xs.map Nde.name)) (keyB nm) := ⟨_, rfl⟩
  rw [← hb] at hlk
  have f0 := blk_cell hF1.head 0
  have f1 := blk_cell hF1.head 1
  have y0 := blk_cell hx1 0
  have y5 := blk_cell hx1 5
  simp at f0 f1 y0 y5
  replace hF := Lib.hid hF; replace hx := Lib.hid hx; replace hp := Lib.hid hp; replace hb1 := Lib.hid hb1; replace hF1 := Lib.hid hF1; replace hx1 := Lib.hid hx1; replace hF1d := Lib.hid hF1d; replace hat := Lib.hid hat; replace hb := Lib.hid hb
  have hW1' := Lib.hid hW1
  clear hW1
  go_enter Tryd.func81, Tryd.ntmps81
  go_wp2_with fail
  rw [← hW1'.out]
  go_step3
  go_upto_region 1 with fail
  go_cut [5, 6] (fun cv bv wx => LkC W1 c b cv bv wx)
  case first =>
    go_region_with (fail)
    all_goals
      go_wp2_with fail
      go_meet
      exact ⟨rfl, rfl, rfl⟩
  case rest =>
    obtain ⟨rfl, rfl, rfl⟩ := hcut
    cases b with
    | true =>
      have hE : putE (xs.map Nde.name) xs.length nm ps = 51 := by unfold putE; rw [if_pos (by rw [memB_iff]; exact (mapD_has _ _).1 hb.out.symm)]
      have hlow : Below w.heap.size w W1.drew := hb1.out.drew
      have hbs : base ≤ w.heap.size := hbase
      replace hE := Lib.hid hE; replace hlow := Lib.hid hlow; replace hbs := Lib.hid hbs
      go_wp2
      try rw [Exit.noGoto_ret]
      go_ret
      exact ⟨nv, by rw [hE.out]; rfl, by rw [hE.out]; exact hF1d.out, PutK.of_low hlow.out (Nat.le_trans hlo hbs.out)⟩
    | false =>
      have hnm : ¬ memB (xs.map Nde.name) nm = true := fun h => by
        have := (mapD_has _ _).2 (memB_iff.1 h)
        rw [← hb.out] at this; cases this
      obtain ⟨W2, hW2⟩ : ∃ W2, W2 = W1.drew := ⟨_, rfl⟩
      have hF2 : FlW W2 fb mb base nv xs := by rw [hW2]; exact hF1d.out
      have hx2 : W2.heap[w.heap.size]? = some (.cells (⟨nm, cp, po, pn, pc, ps⟩ : Nde).cells 48 (0, 0)) := by rw [hW2]; exact hx1.out
      have hps : StrsAt W2 po pn ps := by rw [hW2]; exact (hx.out.low (hb1.out.drew)).parts
      clear f0 f1 y0 y5 hlk
      have f0 := blk_cell hF2.head 0
      have f1 := blk_cell hF2.head 1
      have y0 := blk_cell hx2 0
      have y5 := blk_cell hx2 5
      simp at f0 f1 y0 y5
      obtain ⟨tb, htb⟩ : ∃ tb, tb = twiceL ps := ⟨_, rfl⟩
      have hpn := hps.len
      have hple : pn ≤ pc := hx.out.ple
      rw [← hW2]
      replace hnm := Lib.hid hnm; replace hF2 := Lib.hid hF2; replace hx2 := Lib.hid hx2; replace hps := Lib.hid hps; replace hW2 := Lib.hid hW2; replace htb := Lib.hid htb; replace hpn := Lib.hid hpn
      go_upto_block 0 with fail
      go_step3
      go_upto_block 0 with fail
      go_cut [7, 8, 9, 11] from 26 to 44 (fun tv _ _ _ wx => TwC W2 tb tv wx)
      case first =>
        go_wp2
        go_loopw [7, 8, 9, 11, 26] (fun tv _ _ _ i wr => ∃ k : Nat, tv = .bool false ∧ i = .int .i64 k ∧ k ≤ pn ∧ wr = W2 ∧ Hid (¬ DupTo ps k)) (fun _ _ _ _ i _ => pn - (intOf i).toNat)
        case atStart => exact ⟨0, rfl, rfl, Nat.zero_le _, rfl, fun ⟨i, j, s, h1, h2, _⟩ => absurd h2 (Nat.not_lt_zero _)⟩
        case round =>
          obtain ⟨k, rfl, rfl, hk, rfl, hD⟩ := hrel
          by_cases hk1 : k < pn
          · have hc1 : (k : Int) < pn := by omega
            have hk0 : (0 : Int) ≤ (k : Int) := by omega
            obtain ⟨p, hpk⟩ := hps.out.get hk1
            obtain ⟨b', off', rfl, hb', hcp⟩ := hps.out.cell k p hpk
            have hsl := fun w => slice_upto_g Tryd.underlying36 hi9 ⟨b', off', none⟩ pn pc k k rfl (by omega) w
            replace hpk := Lib.hid hpk
            go_wp2
            go_loopw [7, 11, 36] (fun tv _ i wq => ∃ j : Nat, tv = .bool false ∧ i = .int .i64 j ∧ j ≤ k ∧ wq = wr ∧ Hid (∀ j', j' < j → ps[j']? ≠ some p)) (fun _ _ i _ => k - (intOf i).toNat)
            case atStart => exact ⟨0, rfl, rfl, Nat.zero_le _, rfl, fun j' h => absurd h (Nat.not_lt_zero _)⟩
            case round =>
              obtain ⟨j, rfl, rfl, hj, rfl, hN⟩ := hrel
              by_cases hj1 : j < k
              · have hc2 : (j : Int) < k := by omega
                have hj0 : (0 : Int) ≤ (j : Int) := by omega
                obtain ⟨q, hqj⟩ := hps.out.get (i := j) (by omega)
                obtain ⟨b2, off2, e2, hb2, hcq⟩ := hps.out.cell j q hqj
                cases e2
                by_cases hpq : p = q
                · have d : (p.toList == q.toList) = true := by rw [hpq]; simp
                  have ht : tb = true := by rw [htb.out, twiceL_iff]; exact ⟨k, j, p, hj1, by rw [hpn.out]; exact hk1, hpk.out, by rw [hpq]; exact hqj⟩
                  replace hqj := Lib.hid hqj; replace hpq := Lib.hid hpq; replace ht := Lib.hid ht
                  go_wp2
                  go_meet
                  case rel => exact ⟨by rw [ht.out], rfl⟩
                · have d : (p.toList == q.toList) = false := by
                    simp only [beq_eq_false_iff_ne]
                    intro e
                    rw [Lib.toList_data, Lib.toList_data] at e
                    exact hpq (toL_inj e)
                  have hN2 : ∀ j', j' < j + 1 → ps[j']? ≠ some p := fun j' h e => by
                    by_cases c : j' = j
                    · subst c; rw [hqj] at e; exact hpq (Option.some.inj e).symm
                    · exact hN.out j' (by omega) e
                  replace hqj := Lib.hid hqj; replace hpq := Lib.hid hpq; replace hN2 := Lib.hid hN2
                  go_wp2
                  go_roundw
                  case rel => exact ⟨j + 1, rfl, by go_num, by omega, trivial, hN2.out⟩
                  case measure => simp [intOf]; omega
              · have hc2 : ¬ (j : Int) < k := by omega
                have hD2 : ¬ DupTo ps (k + 1) := fun ⟨i, j', s, h1, h2, h3, h4⟩ => by
                  by_cases c : i = k
                  · subst c
                    rw [hpk.out] at h3
                    exact hN.out j' (by omega) (by rw [h4, ← h3])
                  · exact hD.out ⟨i, j', s, h1, by omega, h3, h4⟩
                replace hD2 := Lib.hid hD2
                go_wp2
                go_roundw
                case rel => exact ⟨k + 1, rfl, by go_num, by omega, trivial, hD2.out⟩
                case measure => simp [intOf]; omega
          · have hc1 : ¬ (k : Int) < pn := by omega
            have hkp : k = pn := by omega
            have ht : tb = false := by
              rw [htb.out, Bool.eq_false_iff]
              intro c
              exact hD.out (by rw [hkp, ← hpn.out]; exact (twiceL_iff ps).1 c)
            replace ht := Lib.hid ht; replace hkp := Lib.hid hkp
            go_wp2
            go_meet
            case rel => exact ⟨by rw [ht.out], rfl⟩
      case rest =>
        obtain ⟨rfl, rfl⟩ := hcut
        have hlow : Below w.heap.size w wc := by rw [hW2.out]; exact hb1.out.drew
        have hbs : base ≤ w.heap.size := hbase
        cases tb with
        | true =>
          have hE : putE (xs.map Nde.name) xs.length nm ps = 51 := by unfold putE; rw [if_neg hnm.out, if_pos htb.out.symm]
          replace hE := Lib.hid hE; replace hlow := Lib.hid hlow; replace hbs := Lib.hid hbs
          go_wp2
          try rw [Exit.noGoto_ret]
          go_ret
          exact ⟨nv, by rw [hE.out]; rfl, by rw [hE.out]; exact hF2.out, PutK.of_low hlow.out (Nat.le_trans hlo hbs.out)⟩
        | false =>
          have hln : ∀ ty w, (Builtin.len_ #[42] ty #[nv]).run Tryd.prog w = .ok (.int .i64 (xs.length : Int)) w := fun ty w => by
            rcases Joins.ownsRow_forms hF2.out.row with ⟨rfl, h0⟩ | ⟨g, cap, rfl⟩
            · rw [h0]; simp [go_sem, Tryd.underlying42]
            · simp [go_sem, Tryd.underlying42]
          obtain ⟨n, hnl⟩ : ∃ n, n = xs.length := ⟨_, rfl⟩
          rw [← hnl] at hln
          replace hnl := Lib.hid hnl; replace hlow := Lib.hid hlow; replace hbs := Lib.hid hbs
          by_cases q1 : 16 ≤ n
          · have d1 : decide ((16 : Int) ≤ n) = true := decide_eq_true (by omega)
            have d1' : decide (16 ≤ n) = true := decide_eq_true q1
            have hE : putE (xs.map Nde.name) xs.length nm ps = 2 := by
              unfold putE; rw [if_neg hnm.out, if_neg (by rw [← htb.out]; simp), if_pos (.inl (by rw [← hnl.out]; exact q1))]
            replace hE := Lib.hid hE
            go_wp2
            try rw [Exit.noGoto_ret]
            go_ret
            exact ⟨nv, by rw [hE.out]; rfl, by rw [hE.out]; exact hF2.out, PutK.of_low hlow.out (Nat.le_trans hlo hbs.out)⟩
          have d1 : decide ((16 : Int) ≤ n) = false := decide_eq_false (by omega)
          have d1' : decide (16 ≤ n) = false := decide_eq_false q1
          by_cases q2 : 8 < pn
          · have d2 : decide ((8 : Int) < pn) = true := decide_eq_true (by omega)
            have d2' : decide (8 < pn) = true := decide_eq_true q2
            have hE : putE (xs.map Nde.name) xs.length nm ps = 2 := by
              unfold putE; rw [if_neg hnm.out, if_neg (by rw [← htb.out]; simp), if_pos (.inr (by rw [hpn.out]; exact q2))]
            replace hE := Lib.hid hE
            go_wp2
            try rw [Exit.noGoto_ret]
            go_ret
            exact ⟨nv, by rw [hE.out]; rfl, by rw [hE.out]; exact hF2.out, PutK.of_low hlow.out (Nat.le_trans hlo hbs.out)⟩
          have d2 : decide ((8 : Int) < pn) = false := decide_eq_false (by omega)
          have d2' : decide (8 < pn) = false := decide_eq_false q2
          have hE : putE (xs.map Nde.name) xs.length nm ps = 0 := by
            unfold putE; rw [if_neg hnm.out, if_neg (by rw [← htb.out]; simp), if_neg (by rw [← hnl.out, hpn.out]; omega)]
          replace hE := Lib.hid hE
          have hown : wc.drew.ownsMap Tryd.prog 9 (plainElem (H := Unit) Tryd.prog 3) mb n (mapD (xs.map Nde.name)) := by rw [hnl.out]; exact hF2.out.map
          have hnlt : n < maxLen := by have : maxLen = 9223372036854775807 := rfl; omega
          have hkey : keyOf Tryd.prog 9 (.string nm) = some (keyB nm) := WideMaps.keyOf_string_mk Tryd.underlying9 hn
          have hwf : (Lit.int .i64 (n : Int)).wf = true := WalkArith.wf_i64 (by omega)
          replace hown := Lib.hid hown; replace hnlt := Lib.hid hnlt; replace hkey := Lib.hid hkey; replace hwf := Lib.hid hwf
          go_upto_region 19 with fail
          go_still_tail 11, (by kernel_rfl)
          change wpList _ _ _ _ _ wc.drew
          go_upto_region 20 with (at_mapUpdate; refine wpList_mapUpdate_own _ rfl _ _ _ 88 rfl 9 3 (string_keyed Tryd.underlying9) Tryd.underlying88 _ mb n _ rfl hown.out hnlt.out _ _ (keyB nm) rfl rfl hkey.out _ [] (plainElem_int Tryd.underlying3 hwf.out) ?_; intro w5 hown5 hgrow5; replace hown5 := Lib.hid hown5; replace hgrow5 := Lib.hid hgrow5)
          have k5 : ∀ (k : Nat) (c : Array Value) (T : TypeId) (fr : Nat × Nat), wc.heap[k]? = some (.cells c T fr) → w5.heap[k]? = some (.cells c T fr) := fun k c T fr h =>
            (hgrow5.out.block k (blk_lt h) (fun e => fl_map_ne hF2.out h (by cases e; rfl))).trans h
          have h5 := k5 _ _ _ _ hF2.out.head
          have hx5 := k5 _ _ _ _ hx2.out
          have hrow5 : w5.ownsRow base 48 6 nv n (flatv Nde.cells xs) := by
            refine ⟨by rw [hnl.out]; exact hF2.out.row.1, ?_⟩
            rcases hF2.out.row.2 with ⟨e1, e2⟩ | ⟨g, cap, cur, hv, hg, hh, hr⟩
            · exact .inl ⟨e1, by rw [hnl.out]; exact e2⟩
            · exact .inr ⟨g, cap, cur, by rw [hnl.out]; exact hv, hg, k5 _ _ _ _ hh, by rw [hnl.out]; exact hr⟩
          have hs5 := hgrow5.out.size
          clear f0 f1 y0 y5
          have f0 := blk_cell h5 0
          have y0 := blk_cell hx5 0
          have y1 := blk_cell hx5 1
          have y2 := blk_cell hx5 2
          have y3 := blk_cell hx5 3
          have y4 := blk_cell hx5 4
          have y5 := blk_cell hx5 5
          simp at f0 y0 y1 y2 y3 y4 y5
          have lf5 := blk_lt h5
          have lx5 := blk_lt hx5
          obtain ⟨i48, hi48, hz48, hz481, hz482⟩ := info_parts info48
          have hownA : ((w5.alloc (.cells (⟨nm, cp, po, pn, pc, ps⟩ : Nde).cells 48 (0, 0))).drew).ownsRow base 48 6 nv n (flatv Nde.cells xs) := hrow5.alloc (.cells (⟨nm, cp, po, pn, pc, ps⟩ : Nde).cells 48 (0, 0))
          have hnews : ∀ j u, (⟨nm, cp, po, pn, pc, ps⟩ : Nde).cells.toList[j]? = some u → ((w5.alloc (.cells (⟨nm, cp, po, pn, pc, ps⟩ : Nde).cells 48 (0, 0))).drew).cell? ((⟨w5.heap.size, 0, none⟩ : Addr).add j) = some u := nde_new w5 (⟨nm, cp, po, pn, pc, ps⟩ : Nde)
          have hone := nde_one (⟨nm, cp, po, pn, pc, ps⟩ : Nde)
          have h63 := maxLen_ge (n := n) (by omega)
          have hby : (n + 1) * 72 ≤ 140737488355328 := by omega
          have hbas : base ≤ ((w5.alloc (.cells (⟨nm, cp, po, pn, pc, ps⟩ : Nde).cells 48 (0, 0))).drew).heap.size := by
            have := hbs.out; have := hlow.out.size; have : wc.drew.heap.size = wc.heap.size := rfl
            show base ≤ (w5.alloc (.cells (⟨nm, cp, po, pn, pc, ps⟩ : Nde).cells 48 (0, 0))).heap.size
            rw [World.size_alloc]; omega
          have hfree : ∀ w9 : World, ((w5.alloc (.cells (⟨nm, cp, po, pn, pc, ps⟩ : Nde).cells 48 (0, 0))).drew).grownBy w9 nv.ownBlock → w9.heap[fb]? = some (.cells #[nv, .map (some mb)] 107 (0, 0)) := fun w9 hg => by
            refine (hg.block fb (by have := blk_lt h5; show fb < (w5.alloc (.cells (⟨nm, cp, po, pn, pc, ps⟩ : Nde).cells 48 (0, 0))).heap.size; rw [World.size_alloc]; omega) (fun e => ?_)).trans (blk_old (.cells (⟨nm, cp, po, pn, pc, ps⟩ : Nde).cells 48 (0, 0)) h5)
            obtain ⟨cur, hc⟩ := owns_block hrow5 e.symm
            rw [h5] at hc; simp at hc
          replace h5 := Lib.hid h5; replace hx5 := Lib.hid hx5; replace hrow5 := Lib.hid hrow5; replace hs5 := Lib.hid hs5; replace hownA := Lib.hid hownA; replace hnews := Lib.hid hnews; replace hone := Lib.hid hone; replace h63 := Lib.hid h63; replace hby := Lib.hid hby; replace hbas := Lib.hid hbas; replace hfree := Lib.hid hfree; replace k5 := Lib.hid k5
          simp only [Act.put]
          go_cut [] (fun wx => PtC base fb w5 (⟨nm, cp, po, pn, pc, ps⟩ : Nde) nv n xs wx)
          case first =>
            go_region_law
              (first
                | (refine step_append_own1 (by rfl) _ _ _ (by rfl) base 48 i48 _ 6 72 Tryd.underlying42 hi48 hz48 hz481 hz482 rfl six_pos nv n _ (by rfl) hownA.out ⟨w5.heap.size, 0, none⟩ 1 (⟨nm, cp, po, pn, pc, ps⟩ : Nde).cells.toList (by rfl) (by rfl) hnews.out hone.out h63.out hby.out hbas.out ?_
                   intro g9 cap9 w9 hown9 hgrow9
                   have q9 := hfree.out w9 hgrow9
                   have f9 := blk_cell q9 0
                   have z9 := blk_free q9 0
                   simp at f9
                   have l9 := blk_lt q9
                   replace q9 := Lib.hid q9; replace hown9 := Lib.hid hown9; replace hgrow9 := Lib.hid hgrow9))
            all_goals
              go_wp2_with fail
              go_meet
              exact ⟨_, w9, hown9.out, hgrow9.out, rfl⟩
          case rest =>
            obtain ⟨v1, w9, hown9, hgrow9, rfl⟩ := hcut.ex
            clear hcut
            have hFx := put_end hF2.out hnl.out hbf hbm hlo hgrow5.out hown5.out hgrow9 hown9 (hfree.out w9 hgrow9) (show Nde.ok wc ⟨nm, cp, po, pn, pc, ps⟩ from ⟨hps.out, hx.out.ple⟩) (fun b off e => by
              obtain ⟨c, hc⟩ := hp.out b off e
              exact ⟨c, blk_below hlow.out hc (blk_lt hc)⟩) hbs.out hlow.out
            have hF9 := hFx.1
            have hK9 := hFx.2
            replace hF9 := Lib.hid hF9; replace hK9 := Lib.hid hK9; replace hown9 := Lib.hid hown9; replace hgrow9 := Lib.hid hgrow9; replace hFx := Lib.hid hFx
            go_wp2
            try rw [Exit.noGoto_ret]
            go_ret
            all_goals first
              | exact ⟨rfl, ⟨v1, hF9.out⟩, hK9.out⟩
              | exact absurd hE.out (by assumption)
end Go.Proofs.YteoihdkaoipocaaDoor
