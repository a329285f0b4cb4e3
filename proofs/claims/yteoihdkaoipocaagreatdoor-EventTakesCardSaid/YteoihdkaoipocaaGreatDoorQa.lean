/- Parts Base, Vec, Nam, Num, Shelf, Pcs, Vrd, Rct, Dig, Rtx, Shelg, Vtx in one text. Plain theorems: no condition. -/
import Derived.Test.YteoihdkaoipocaaGreatDoorProg
import Derived.WalkKit
import Derived.WalkLawsBesides
import Derived.WalkSpells
import Derived.Lib.Hide
import Derived.Deep.QuietTactic
import Derived.BigQuiet
import Derived.KernelRfl
import Derived.Shelf.Strings.Builder1
import Derived.Shelf.Strings.Builder2
import Derived.Shelf.Strings.OnBuilder
import Derived.Shelf.Small.Wraps
import Derived.Shelf.Strings.BuilderF
import Derived.Shelf.Strings.BuilderK
import Derived.Shelf.Utf8.RuneCount
import Derived.Shelf.Strings.Builder2Cap
import Derived.Shelf.Strconv.Itoa0
import Derived.Shelf.Strconv.Itoa1
import Derived.Shelf.LaysM
import Derived.Shelf.Strconv.Itoa2
import Derived.Shelf.Strconv.Itoa3
import Derived.Shelf.Strings.Search1
import Derived.Shelf.Strings.Search2
import Derived.Shelf.Strings.Search3
import Derived.Shelf.Strings.Cut
import Derived.Shelf.Strings.Count
import Derived.Shelf.Strings.Shaped
import Derived.Shelf.Strconv.AppendUint10
import Derived.Shelf.Strconv.AppendInt10
import Derived.Shelf.Strconv.AppendIntPublic10
import Derived.Shelf.Strings.Prefix
import Derived.Shelf.Strings.Split
import Derived.Shelf.Strings.SplitShaped
import Derived.Shelf.Unicode.Decode
import Derived.Shelf.Strings.RuneCount
import Derived.Shelf.Strings.Explode
import Derived.Shelf.Unicode.DecodeSlow
import Derived.Shelf.Unicode.DecodeAny
import Derived.Shelf.Strings.BuilderCap
import Derived.Shelf.Slices.Turned
import Derived.Ground.Names2Prog
import Derived.Shelf.Slices.Clone
import Derived.Ground.SlgnProg
import Derived.Shelf.SlicesE.Clone
import Derived.Maps.AppendAt
import Derived.Lib.SmallJoins
import Derived.Deep.DeepCutAuto
import Derived.Lib.ItoaNum
import Derived.IntWalk
import Derived.Laws.IdiomStrings
import Derived.Laws.AppendOwnNone
/- Small laws on blocks of memory, and the four amounts. -/
namespace Go.Proofs.YteoihdkaoipocaaGreatDoor
open Go.RowKit

/-- an amount of each of the four resources -/
structure V4 where
  a : Int
  b : Int
  c : Int
  d : Int
deriving DecidableEq

def V4.get (v : V4) : Nat → Int
  | 0 => v.a
  | 1 => v.b
  | 2 => v.c
  | _ => v.d

abbrev V4.cells (v : V4) : Array Value := #[.int .i64 v.a, .int .i64 v.b, .int .i64 v.c, .int .i64 v.d]
abbrev V4.val (v : V4) : Value := .agg #[.int .i64 v.a, .int .i64 v.b, .int .i64 v.c, .int .i64 v.d]

theorem lt4 {i : Nat} (h : i < 4) : i = 0 ∨ i = 1 ∨ i = 2 ∨ i = 3 := by omega

theorem below_cell {B : Nat} {w w' : World} (h : Below B w w') {b o : Nat} (hb : b < B) : w'.cell? ⟨b, o, none⟩ = w.cell? ⟨b, o, none⟩ := h.cell (p := ⟨b, o, none⟩) hb

section
variable {w w' : World} {b b' o B : Nat} {c : Array Value} {T : TypeId} {fr : Nat × Nat} {x y : Obj} {v : Value}
theorem blk_cell (h : w.heap[b]? = some (.cells c T fr)) (o : Nat) : w.cell? ⟨b, o, none⟩ = c[o]? := by simp [World.cell?, h]
theorem blk_free (h : w.heap[b]? = some (.cells c T (0, 0))) (o : Nat) : w.frozen? ⟨b, o, none⟩ = false := by simp [World.frozen?, h]
theorem blk_set (h : w.heap[b]? = some (.cells c T fr)) (o : Nat) (v : Value) : (w.setCell ⟨b, o, none⟩ v).heap[b]? = some (.cells (c.setIfInBounds o v) T fr) := by
  simp [World.setCell, Array.getElem?_modify, h]
theorem blk_set_other (hne : b ≠ b') (v : Value) (h : w.heap[b]? = some x) : (w.setCell ⟨b', o, none⟩ v).heap[b]? = some x := by
  rw [Below.heap_setCell _ _ _ _ hne]; exact h
theorem blk_lt (h : w.heap[b]? = some x) : b < w.heap.size := (Array.getElem?_eq_some_iff.1 h).1
theorem blk_new (w : World) (x : Obj) : (w.alloc x).heap[w.heap.size]? = some x := heap_alloc_new w x
theorem blk_at (w : World) (x : Obj) (h : b = w.heap.size) : (w.alloc x).heap[b]? = some x := h ▸ heap_alloc_new w x
theorem blk_old (y : Obj) (h : w.heap[b]? = some x) : (w.alloc y).heap[b]? = some x := (Below.heap_alloc w y b (blk_lt h)).trans h
theorem blk_below (hb : Below B w w') (h : w.heap[b]? = some x) (hlt : b < B) : w'.heap[b]? = some x := (hb.block b hlt).trans h
theorem blk_drew (h : w.heap[b]? = some x) : w.drew.heap[b]? = some x := h
end

theorem slice_from {P : Program} {t e : TypeId} {i : TypeInfo} (hU : P.underlying t = some (.slice e)) (hi : P.info? e = some i) (b len cap n : Nat) (x : Int) (hx : x = n) (hn : n ≤ len) :
    ∃ ta, (∀ w, (Instr.slice t (.slice (some ⟨b, 0, none⟩) len cap) (some (.int .i64 x)) none none).run P w = .ok (.slice (some ta) (len - n) (cap - n)) w) ∧ (n < cap → ta = ⟨b, n * i.size, none⟩) := by
  subst hx
  have h1 : ∀ (y : Nat) (_ : n ≤ y) c w, (Instr.sliceBound (.int .i64 (n : Int)) y c).run P w = .ok n w := fun y h c w => by
    simp [Instr.sliceBound, asIntOf, h]
  refine ⟨if cap = n then ⟨b, 0, none⟩ else (⟨b, 0, none⟩ : Addr).add (n * i.size), fun w => ?_, fun h => ?_⟩
  · simp [Instr.slice, Instr.sliceBounds, run_underlying hU, h1 len hn, sizeOf, typeInfo, hi]
    split <;> rfl
  · rw [if_neg (by omega)]
    unfold Addr.add
    split
    · next h => rw [h]
    · simp

theorem enters {F : FuncId} {fn : Func} (h : Tryz.prog.funcs[F]? = some fn) (hn : fn.name ≠ "runtime.NumGoroutine") (hb : fn.body ≠ none) :
    ∀ args w, (callFunc F args).run Tryz.prog w = .ok (.enter F args) w := by
  intro args w
  simp [callFunc, go_sem, h, hn, hb]
end Go.Proofs.YteoihdkaoipocaaGreatDoor

/- Package vec: what Right, Fits, Least, Add, Sub answer. -/
namespace Go.Proofs.YteoihdkaoipocaaGreatDoor
open Go.RowKit

def okn (x : Int) : Bool := decide (0 ≤ x) && decide (x ≤ 1073741824)
def V4.right (v : V4) : Bool := okn v.a && okn v.b && okn v.c && okn v.d
def V4.fits (u v : V4) : Bool := decide (u.a ≤ v.a) && decide (u.b ≤ v.b) && decide (u.c ≤ v.c) && decide (u.d ≤ v.d)

/-- vec.all over a function value: what it tells of 0, 1, 2, 3 together. -/
theorem all_any (F : FuncId) (caps : Array Value) (p : Nat → Bool) (w : World)
    (hF : ∀ args w, (callFunc F args).run Tryz.prog w = .ok (.enter F args) w)
    (H : ∀ (i : Nat) (w1 : World), i < 4 → Below w.heap.size w w1 → Calls Tryz.prog F (#[.int .i64 i] ++ caps) w1 fun e w2 => e = .returned (.bool (p i)) ∧ Below w.heap.size w1 w2) :
    Calls Tryz.prog 77 #[.func (.func F) #[] caps] w fun e w' => e = .returned (.bool (p 0 && p 1 && p 2 && p 3)) ∧ Below w.heap.size w w' := by
  have H' := Lib.hid H; clear H
  go_enter Tryz.func77, Tryz.ntmps77
  go_wp2
  go_loopw [3, 4] (fun _ i wr => ∃ k : Nat, k ≤ 4 ∧ i = .int .i64 k ∧ Below w.heap.size w wr ∧ (∀ j : Nat, j < k → p j = true)) (fun _ i _ => 4 - (intOf i).toNat)
  case atStart => exact ⟨0, by omega, rfl, Below.refl _ _, by omega⟩
  case round =>
    obtain ⟨k, hk, rfl, hb, hp⟩ := hrel
    have hp' := Lib.hid hp; clear hp
    by_cases h4 : k < 4
    · have hi : (k:Int) < 4 := by omega
      go_wp2_with fail
      refine (H'.out k _ h4 hb).mono ?_
      rintro e w2 ⟨rfl, hb2⟩
      cases hpk : p k
      · have hpk' := Lib.hid hpk; clear hpk
        go_wp2
        go_ret
        refine ⟨?_, hb.trans hb2⟩
        have hpk := hpk'.out
        have : (p 0 && p 1 && p 2 && p 3) = false := by
          rcases (show k = 0 ∨ k = 1 ∨ k = 2 ∨ k = 3 by omega) with rfl | rfl | rfl | rfl <;> simp [hpk]
        rw [this]
        rfl
      · have hpk' := Lib.hid hpk; clear hpk
        go_wp2
        go_roundw
        case rel =>
          refine ⟨k + 1, by omega, by go_num, hb.trans hb2, ?_⟩
          intro j hj
          by_cases hjk : j = k
          · subst hjk; exact hpk'.out
          · exact hp'.out j (by omega)
        case measure => simp [intOf]; omega
    · have hi : ¬ (k:Int) < 4 := by omega
      go_wp2
      go_ret
      refine ⟨?_, hb⟩
      have hp := hp'.out
      rw [hp 0 (by omega), hp 1 (by omega), hp 2 (by omega), hp 3 (by omega)]
      rfl

theorem enters114 : ∀ args w, (callFunc 107 args).run Tryz.prog w = .ok (.enter 107 args) w := enters Tryz.func107 (by decide) (by simp [Tryz.f107])

theorem right1_any (v : V4) (b : Nat) (i : Nat) (B : Nat) (w : World) (hi : i < 4)
    (h0 : w.cell? ⟨b, 0, none⟩ = some (.int .i64 v.a)) (h1 : w.cell? ⟨b, 1, none⟩ = some (.int .i64 v.b)) (h2 : w.cell? ⟨b, 2, none⟩ = some (.int .i64 v.c)) (h3 : w.cell? ⟨b, 3, none⟩ = some (.int .i64 v.d)) :
    Calls Tryz.prog 107 (#[.int .i64 i] ++ #[.pointer (some ⟨b, 0, none⟩)]) w fun e w' => e = .returned (.bool (okn (v.get i))) ∧ Below B w w' := by
  have key : ∀ x : Int, x < 0 → okn x = false := by intro x hx; simp [okn]; omega
  have key2 : ∀ x : Int, 0 ≤ x → okn x = decide (x ≤ 1073741824) := by intro x hx; simp [okn, hx]
  have hk := Lib.hid key; have hk2 := Lib.hid key2; clear key key2
  rcases lt4 hi with rfl | rfl | rfl | rfl
  all_goals
    go_enter Tryz.func107, Tryz.ntmps107
    go_wp2
    all_goals
      go_ret
      refine ⟨?_, Below.refl _ _⟩
      simp only [V4.get]
      first
        | (rw [hk.out _ (by assumption)]; rfl)
        | (rw [hk2.out _ (by assumption)]; rfl)

theorem right_any (v : V4) (w : World) :
    Calls Tryz.prog 72 #[v.val] w fun e w' => e = .returned (.bool v.right) ∧ Below w.heap.size w w' := by
  go_enter Tryz.func72, Tryz.ntmps72
  go_wp2_with fail
  refine (all_any 107 _ (fun i => okn (v.get i)) _ enters114 ?_).mono ?_
  · intro i w1 hi hb
    have hc : ∀ j, w1.cell? ⟨w.heap.size, j, none⟩ = _ := fun j => below_cell (o := j) hb (by simp)
    exact right1_any v w.heap.size i _ w1 hi (by rw [hc]; simp) (by rw [hc]; simp) (by rw [hc]; simp) (by rw [hc]; simp)
  · rintro e w2 ⟨rfl, hb2⟩
    go_wp2
    go_ret
    exact ⟨rfl, ((Below.refl _ _).alloc (Nat.le_refl _) _).trans (hb2.mono (by simp))⟩

theorem enters124 : ∀ args w, (callFunc 78 args).run Tryz.prog w = .ok (.enter 78 args) w := enters Tryz.func78 (by decide) (by simp [Tryz.f78])

theorem fits1_any (u v : V4) (b1 b2 : Nat) (i : Nat) (B : Nat) (w : World) (hi : i < 4)
    (hu : w.heap[b1]? = some (.cells u.cells 23 (0, 0))) (hv : w.heap[b2]? = some (.cells v.cells 23 (0, 0))) :
    Calls Tryz.prog 78 (#[.int .i64 i] ++ #[.pointer (some ⟨b1, 0, none⟩), .pointer (some ⟨b2, 0, none⟩)]) w fun e w' => e = .returned (.bool (decide (u.get i ≤ v.get i))) ∧ Below B w w' := by
  have c0 := blk_cell hu 0; have c1 := blk_cell hu 1; have c2 := blk_cell hu 2; have c3 := blk_cell hu 3
  have d0 := blk_cell hv 0; have d1 := blk_cell hv 1; have d2 := blk_cell hv 2; have d3 := blk_cell hv 3
  simp at c0 c1 c2 c3 d0 d1 d2 d3
  clear hu hv
  rcases lt4 hi with rfl | rfl | rfl | rfl
  all_goals
    go_enter Tryz.func78, Tryz.ntmps78
    go_wp2
    go_quiet (fail)
    go_wp2
    go_ret
    exact ⟨rfl, ⟨rfl, rfl, rfl, Nat.le_refl _, fun _ _ => rfl⟩⟩

theorem fits_any (u v : V4) (w : World) :
    Calls Tryz.prog 38 #[u.val, v.val] w fun e w' => e = .returned (.bool (u.fits v)) ∧ Below w.heap.size w w' := by
  go_enter Tryz.func38, Tryz.ntmps38
  go_wp2_with fail
  refine (all_any 78 _ (fun i => decide (u.get i ≤ v.get i)) _ enters124 ?_).mono ?_
  · intro i w1 hi hb
    exact fits1_any u v w.heap.size (w.heap.size + 1) i _ w1 hi (blk_below hb (blk_old _ (blk_new _ _)) (by simp; omega)) (blk_below hb (blk_at _ _ (by simp)) (by simp))
  · rintro e w2 ⟨rfl, hb2⟩
    go_wp2
    go_ret
    exact ⟨rfl, (((Below.refl _ _).alloc (Nat.le_refl _) _).alloc (by simp) _).trans (hb2.mono (by simp; omega))⟩

def V4.zero : V4 := ⟨0, 0, 0, 0⟩
def V4.told (v : V4) (e : Int) : V4 × Int := if v.right = true then (v, 0) else (V4.zero, e)
theorem told_any (v : V4) (e : Int) (w : World) :
    Calls Tryz.prog 105 #[v.val, .int .i64 e] w fun e' w' => e' = .returned (.tuple #[(v.told e).1.val, .int .i64 (v.told e).2]) ∧ Below w.heap.size w w' := by
  go_enter Tryz.func105, Tryz.ntmps105
  go_wp2_with fail
  refine (right_any v _).mono ?_
  rintro e w2 ⟨rfl, hb2⟩
  have g := blk_below hb2 (blk_at (b := w.heap.size + 1) _ _ (by simp)) (by simp)
  have cx := blk_cell g; have fx := blk_free g
  have g0 := blk_below hb2 (blk_old _ (blk_new _ _)) (by simp; omega)
  have cy := blk_cell g0
  clear g g0
  have hB : Below w.heap.size w w2 := (((Below.refl _ _).alloc (Nat.le_refl _) _).alloc (by simp) _).trans (hb2.mono (by simp; omega))
  cases hr : v.right
  all_goals
    have hr' := Lib.hid hr; clear hr
    go_wp2
    refine bodyPost_ret (v := .tuple #[(v.told e).1.val, .int .i64 (v.told e).2]) (by simp [results, Tryz.results105, go_sem, cx, V4.told, hr'.out, V4.zero]) rfl ⟨rfl, ?_⟩
    refine Below.setCell ?_ (by simp) _
    refine Below.setCell ?_ (by simp) _
    refine Below.setCell ?_ (by simp) _
    refine Below.setCell ?_ (by simp) _
    exact hB
end Go.Proofs.YteoihdkaoipocaaGreatDoor

/- fleet.Name and corveeref05.Name: which texts are names. -/
namespace Go.Proofs.YteoihdkaoipocaaGreatDoor
open Go.RowKit

abbrev Bs := List UInt8
/-- the letter at a place, as a number -/
def chz (s : ByteArray) (k : Nat) : Int := ((s.data.toList.getD k 0).toNat : Int)
def nameCh (c : Int) : Bool := (decide (97 ≤ c) && decide (c ≤ 122)) || (decide (48 ≤ c) && decide (c ≤ 57)) || decide (c = 45)
def nameTo (s : ByteArray) : Nat → Bool
  | 0 => true
  | k + 1 => nameTo s k && nameCh (chz s k)
def isName (s : ByteArray) : Bool := decide (1 ≤ s.size) && decide (s.size ≤ 16) && nameTo s s.size
theorem nameTo_le {s : ByteArray} {k n : Nat} (h : nameTo s n = true) (hk : k ≤ n) : nameTo s k = true := by
  induction n with
  | zero => have : k = 0 := by omega
            subst this; rfl
  | succ n ih =>
    simp only [nameTo, Bool.and_eq_true] at h
    by_cases c : k = n + 1
    · subst c; simp [nameTo, h]
    · exact ih h.1 (by omega)
theorem nameTo_no {s : ByteArray} {k : Nat} (hk : k < s.size) (h : nameCh (chz s k) = false) : nameTo s s.size = false := by
  rw [Bool.eq_false_iff]
  intro c
  have := nameTo_le c (show k + 1 ≤ s.size by omega)
  simp [nameTo, h] at this
theorem index_at {P : Program} {t : TypeId} (h : P.underlying t = some .string) (s : ByteArray) (k : Nat) (i : Int) (hi : i = k) (hk : k < s.size) (w : World) : (Instr.index t (.string s) (.int .i64 i)).run P w = .ok (.int .u8 (chz s k)) w := by
  subst hi
  rw [run_index_string w t s .i64 k h, dif_pos ⟨by omega, by omega⟩]
  have e : s[((k : Int)).toNat]'(by omega) = s.data.toList.getD k 0 := by
    have h2 : k < s.data.toList.length := by simpa using hk
    have h4 : k < s.data.size := hk
    have h3 : s.data.toList.getD k 0 = s.data.toList[k] := by
      simp only [List.getD, Array.getElem?_toList, Array.getElem_toList]
      rw [Array.getElem?_eq_getElem h4]; rfl
    rw [h3]
    rfl
  rw [e]
  rfl

theorem ch_cases (c : Int) : (nameCh c = true ∧ ((97 ≤ c ∧ c ≤ 122) ∨ (48 ≤ c ∧ c ≤ 57) ∨ c = 45)) ∨ (nameCh c = false ∧ ((c < 48 ∧ c ≠ 45) ∨ (57 < c ∧ c < 97) ∨ 122 < c)) := by
  by_cases h : (97 ≤ c ∧ c ≤ 122) ∨ (48 ≤ c ∧ c ≤ 57) ∨ c = 45
  · exact .inl ⟨by unfold nameCh; simp; omega, h⟩
  · refine .inr ⟨?_, by omega⟩
    rw [Bool.eq_false_iff]; intro hh
    unfold nameCh at hh
    simp at hh
    omega

set_option maxRecDepth 100000 in
set_option maxHeartbeats 1600000 in
theorem name_any (s : ByteArray) (w : World) (hs : s.size ≤ maxLen) : Calls Tryz.prog 67 #[.string s] w fun e w' => e = .returned (.bool (isName s)) ∧ Below w.heap.size w w' := by
  have hix : ∀ (k : Nat), k < s.size → ∀ w, (Instr.index 9 (.string s) (.int .i64 (k : Int))).run Tryz.prog w = .ok (.int .u8 (chz s k)) w := fun k hk w => index_at Tryz.underlying9 s k k rfl hk w
  have hmx : s.size ≤ 9223372036854775807 := hs
  replace hix := Lib.hid hix
  go_enter Tryz.func67, Tryz.ntmps67
  go_wp2
  go_loopw [3, 4, 7] (fun _ _ i wr => ∃ k : Nat, i = .int .i64 k ∧ k ≤ s.size ∧ Hid (nameTo s k = true) ∧ Hid (Below w.heap.size w wr)) (fun _ _ i _ => s.size - (intOf i).toNat)
  case atStart => exact ⟨0, rfl, Nat.zero_le _, rfl, Below.refl _ _⟩
  case round =>
    obtain ⟨k, rfl, hk, hy, hB⟩ := hrel
    by_cases hk1 : k < s.size
    · have hc1 : (k : Int) < s.size := by omega
      have hi1 := hix.out k hk1
      obtain ⟨c, hc⟩ : ∃ c, c = chz s k := ⟨_, rfl⟩
      rw [← hc] at hi1
      have hcs := ch_cases c
      rcases hcs with ⟨hch, h | h | h⟩ | ⟨hch, h | h | h⟩
      · have k1 : decide (c < 97) = false := by simp; omega
        have k2 : decide (122 < c) = false := by simp; omega
        have k3 : decide (c < 48) = false := by simp; omega
        have k4 : decide (57 < c) = true := by simp; omega
        have k5 : (c != 45) = true := by simp; try omega
        have hch' : nameCh (chz s k) = true := by rw [← hc]; exact hch
        replace hc := Lib.hid hc; replace hch := Lib.hid hch; replace hch' := Lib.hid hch'; replace h := Lib.hid h
        have hy2 : nameTo s (k + 1) = true := by simp only [nameTo, hy.out, hch'.out, Bool.and_self]
        replace hy2 := Lib.hid hy2
        go_wp2
        go_roundw
        case rel => exact ⟨k + 1, by go_num, by omega, hy2.out, hB.out⟩
        case measure => simp [intOf]; omega
      · have k1 : decide (c < 97) = true := by simp; omega
        have k2 : decide (122 < c) = false := by simp; omega
        have k3 : decide (c < 48) = false := by simp; omega
        have k4 : decide (57 < c) = false := by simp; omega
        have k5 : (c != 45) = true := by simp; try omega
        have hch' : nameCh (chz s k) = true := by rw [← hc]; exact hch
        replace hc := Lib.hid hc; replace hch := Lib.hid hch; replace hch' := Lib.hid hch'; replace h := Lib.hid h
        have hy2 : nameTo s (k + 1) = true := by simp only [nameTo, hy.out, hch'.out, Bool.and_self]
        replace hy2 := Lib.hid hy2
        go_wp2
        go_roundw
        case rel => exact ⟨k + 1, by go_num, by omega, hy2.out, hB.out⟩
        case measure => simp [intOf]; omega
      · have k1 : decide (c < 97) = true := by simp; omega
        have k2 : decide (122 < c) = false := by simp; omega
        have k3 : decide (c < 48) = true := by simp; omega
        have k4 : decide (57 < c) = false := by simp; omega
        have k5 : (c != 45) = false := by simp; try omega
        have hch' : nameCh (chz s k) = true := by rw [← hc]; exact hch
        replace hc := Lib.hid hc; replace hch := Lib.hid hch; replace hch' := Lib.hid hch'; replace h := Lib.hid h
        have hy2 : nameTo s (k + 1) = true := by simp only [nameTo, hy.out, hch'.out, Bool.and_self]
        replace hy2 := Lib.hid hy2
        go_wp2
        go_roundw
        case rel => exact ⟨k + 1, by go_num, by omega, hy2.out, hB.out⟩
        case measure => simp [intOf]; omega
      · have k1 : decide (c < 97) = true := by simp; omega
        have k2 : decide (122 < c) = false := by simp; omega
        have k3 : decide (c < 48) = true := by simp; omega
        have k4 : decide (57 < c) = false := by simp; omega
        have k5 : (c != 45) = true := by simp; try omega
        have hno : nameCh (chz s k) = false := by rw [← hc]; exact hch
        replace hc := Lib.hid hc; replace hch := Lib.hid hch; replace hno := Lib.hid hno; replace h := Lib.hid h
        have hz : isName s = false := by unfold isName; rw [nameTo_no hk1 hno.out]; simp
        replace hz := Lib.hid hz
        go_wp2
        go_ret
        exact ⟨by rw [hz.out]; rfl, hB.out⟩
      · have k1 : decide (c < 97) = true := by simp; omega
        have k2 : decide (122 < c) = false := by simp; omega
        have k3 : decide (c < 48) = false := by simp; omega
        have k4 : decide (57 < c) = true := by simp; omega
        have k5 : (c != 45) = true := by simp; try omega
        have hno : nameCh (chz s k) = false := by rw [← hc]; exact hch
        replace hc := Lib.hid hc; replace hch := Lib.hid hch; replace hno := Lib.hid hno; replace h := Lib.hid h
        have hz : isName s = false := by unfold isName; rw [nameTo_no hk1 hno.out]; simp
        replace hz := Lib.hid hz
        go_wp2
        go_ret
        exact ⟨by rw [hz.out]; rfl, hB.out⟩
      · have k1 : decide (c < 97) = false := by simp; omega
        have k2 : decide (122 < c) = true := by simp; omega
        have k3 : decide (c < 48) = false := by simp; omega
        have k4 : decide (57 < c) = true := by simp; omega
        have k5 : (c != 45) = true := by simp; try omega
        have hno : nameCh (chz s k) = false := by rw [← hc]; exact hch
        replace hc := Lib.hid hc; replace hch := Lib.hid hch; replace hno := Lib.hid hno; replace h := Lib.hid h
        have hz : isName s = false := by unfold isName; rw [nameTo_no hk1 hno.out]; simp
        replace hz := Lib.hid hz
        go_wp2
        go_ret
        exact ⟨by rw [hz.out]; rfl, hB.out⟩
    · have hc1 : ¬ (k : Int) < s.size := by omega
      have hkn : k = s.size := by omega
      subst hkn
      have hz : isName s = (decide ((1 : Int) ≤ s.size) && decide ((s.size : Int) ≤ 16)) := by
        unfold isName; rw [hy.out, Bool.and_true]
        congr 1 <;> exact decide_eq_decide.2 (by omega)
      by_cases h1 : (1 : Int) ≤ s.size
      · have k1 : decide ((1 : Int) ≤ s.size) = true := by simpa using h1
        have k1' : decide (1 ≤ s.size) = true := decide_eq_true (by omega)
        by_cases h2 : (s.size : Int) ≤ 16
        · have k2 : decide ((s.size : Int) ≤ 16) = true := by simpa using h2
          have hzz : isName s = true := by rw [hz, k1, k2]; rfl
          replace hz := Lib.hid hz; replace hzz := Lib.hid hzz
          go_wp2
          go_ret
          exact ⟨by rw [hzz.out]; rfl, hB.out⟩
        · have k2 : decide ((s.size : Int) ≤ 16) = false := by simpa using h2
          have hzz : isName s = false := by rw [hz, k1, k2]; rfl
          replace hz := Lib.hid hz; replace hzz := Lib.hid hzz
          go_wp2
          go_ret
          exact ⟨by rw [hzz.out]; rfl, hB.out⟩
      · have k1 : decide ((1 : Int) ≤ s.size) = false := by simpa using h1
        have k1' : decide (1 ≤ s.size) = false := decide_eq_false (by omega)
        have hzz : isName s = false := by rw [hz, k1]; rfl
        replace hz := Lib.hid hz; replace hzz := Lib.hid hzz
        go_wp2
        go_ret
        exact ⟨by rw [hzz.out]; rfl, hB.out⟩

set_option maxRecDepth 100000 in
set_option maxHeartbeats 1600000 in
theorem rname_any (s : ByteArray) (w : World) (hs : s.size ≤ maxLen) : Calls Tryz.prog 69 #[.string s] w fun e w' => e = .returned (.bool (isName s)) ∧ Below w.heap.size w w' := by
  have hix : ∀ (k : Nat), k < s.size → ∀ w, (Instr.index 9 (.string s) (.int .i64 (k : Int))).run Tryz.prog w = .ok (.int .u8 (chz s k)) w := fun k hk w => index_at Tryz.underlying9 s k k rfl hk w
  replace hix := Lib.hid hix
  by_cases h1 : s.size < 1
  · have k1 : decide ((s.size : Int) < 1) = true := decide_eq_true (by omega)
    have k1' : decide (s.size < 1) = true := decide_eq_true (by omega)
    have hzz : isName s = false := by unfold isName; rw [show decide (1 ≤ s.size) = false from decide_eq_false (by omega)]; rfl
    replace hzz := Lib.hid hzz; replace hs := Lib.hid hs
    go_enter Tryz.func69, Tryz.ntmps69
    go_wp2
    go_ret
    exact ⟨by rw [hzz.out]; rfl, Below.refl _ _⟩
  have k1 : decide ((s.size : Int) < 1) = false := decide_eq_false (by omega)
  have k1' : decide (s.size < 1) = false := decide_eq_false (by omega)
  by_cases h2 : 16 < s.size
  · have k2 : decide ((16 : Int) < s.size) = true := decide_eq_true (by omega)
    have k2' : decide (16 < s.size) = true := decide_eq_true (by omega)
    have hzz : isName s = false := by unfold isName; rw [show decide (s.size ≤ 16) = false from decide_eq_false (by omega)]; simp
    replace hzz := Lib.hid hzz; replace hs := Lib.hid hs
    go_enter Tryz.func69, Tryz.ntmps69
    go_wp2
    go_ret
    exact ⟨by rw [hzz.out]; rfl, Below.refl _ _⟩
  have k2 : decide ((16 : Int) < s.size) = false := decide_eq_false (by omega)
  have k2' : decide (16 < s.size) = false := decide_eq_false (by omega)
  go_enter Tryz.func69, Tryz.ntmps69
  go_wp2
  clear k1 k1' k2 k2'
  go_loopw [3, 4] (fun i _ wr => ∃ k : Nat, i = .int .i64 k ∧ k ≤ s.size ∧ Hid (nameTo s k = true) ∧ Hid (Below w.heap.size w wr)) (fun i _ _ => s.size - (intOf i).toNat)
  case atStart => exact ⟨0, rfl, Nat.zero_le _, rfl, Below.refl _ _⟩
  case round =>
    obtain ⟨k, rfl, hk, hy, hB⟩ := hrel
    by_cases hk1 : k < s.size
    · have hc1 : (k : Int) < s.size := by omega
      have hi1 := hix.out k hk1
      obtain ⟨c, hc⟩ : ∃ c, c = chz s k := ⟨_, rfl⟩
      rw [← hc] at hi1
      have hcs := ch_cases c
      rcases hcs with ⟨hch, h | h | h⟩ | ⟨hch, h | h | h⟩
      · have k1 : decide (97 ≤ c) = true := by simp; omega
        have k2 : decide (c ≤ 122) = true := by simp; omega
        have k3 : decide (48 ≤ c) = true := by simp; omega
        have k4 : decide (c ≤ 57) = false := by simp; omega
        have k5 : (c == 45) = false := by simp; try omega
        have hch' : nameCh (chz s k) = true := by rw [← hc]; exact hch
        replace hc := Lib.hid hc; replace hch := Lib.hid hch; replace hch' := Lib.hid hch'; replace h := Lib.hid h
        have hy2 : nameTo s (k + 1) = true := by simp only [nameTo, hy.out, hch'.out, Bool.and_self]
        replace hy2 := Lib.hid hy2
        go_wp2
        go_roundw
        case rel => exact ⟨k + 1, by go_num, by omega, hy2.out, hB.out⟩
        case measure => simp [intOf]; omega
      · have k1 : decide (97 ≤ c) = false := by simp; omega
        have k2 : decide (c ≤ 122) = true := by simp; omega
        have k3 : decide (48 ≤ c) = true := by simp; omega
        have k4 : decide (c ≤ 57) = true := by simp; omega
        have k5 : (c == 45) = false := by simp; try omega
        have hch' : nameCh (chz s k) = true := by rw [← hc]; exact hch
        replace hc := Lib.hid hc; replace hch := Lib.hid hch; replace hch' := Lib.hid hch'; replace h := Lib.hid h
        have hy2 : nameTo s (k + 1) = true := by simp only [nameTo, hy.out, hch'.out, Bool.and_self]
        replace hy2 := Lib.hid hy2
        go_wp2
        go_roundw
        case rel => exact ⟨k + 1, by go_num, by omega, hy2.out, hB.out⟩
        case measure => simp [intOf]; omega
      · have k1 : decide (97 ≤ c) = false := by simp; omega
        have k2 : decide (c ≤ 122) = true := by simp; omega
        have k3 : decide (48 ≤ c) = false := by simp; omega
        have k4 : decide (c ≤ 57) = true := by simp; omega
        have k5 : (c == 45) = true := by simp; try omega
        have hch' : nameCh (chz s k) = true := by rw [← hc]; exact hch
        replace hc := Lib.hid hc; replace hch := Lib.hid hch; replace hch' := Lib.hid hch'; replace h := Lib.hid h
        have hy2 : nameTo s (k + 1) = true := by simp only [nameTo, hy.out, hch'.out, Bool.and_self]
        replace hy2 := Lib.hid hy2
        go_wp2
        go_roundw
        case rel => exact ⟨k + 1, by go_num, by omega, hy2.out, hB.out⟩
        case measure => simp [intOf]; omega
      · have k1 : decide (97 ≤ c) = false := by simp; omega
        have k2 : decide (c ≤ 122) = true := by simp; omega
        have k3 : decide (48 ≤ c) = false := by simp; omega
        have k4 : decide (c ≤ 57) = true := by simp; omega
        have k5 : (c == 45) = false := by simp; try omega
        have hno : nameCh (chz s k) = false := by rw [← hc]; exact hch
        replace hc := Lib.hid hc; replace hch := Lib.hid hch; replace hno := Lib.hid hno; replace h := Lib.hid h
        have hz : isName s = false := by unfold isName; rw [nameTo_no hk1 hno.out]; simp
        replace hz := Lib.hid hz
        go_wp2
        go_ret
        exact ⟨by rw [hz.out]; rfl, hB.out⟩
      · have k1 : decide (97 ≤ c) = false := by simp; omega
        have k2 : decide (c ≤ 122) = true := by simp; omega
        have k3 : decide (48 ≤ c) = true := by simp; omega
        have k4 : decide (c ≤ 57) = false := by simp; omega
        have k5 : (c == 45) = false := by simp; try omega
        have hno : nameCh (chz s k) = false := by rw [← hc]; exact hch
        replace hc := Lib.hid hc; replace hch := Lib.hid hch; replace hno := Lib.hid hno; replace h := Lib.hid h
        have hz : isName s = false := by unfold isName; rw [nameTo_no hk1 hno.out]; simp
        replace hz := Lib.hid hz
        go_wp2
        go_ret
        exact ⟨by rw [hz.out]; rfl, hB.out⟩
      · have k1 : decide (97 ≤ c) = true := by simp; omega
        have k2 : decide (c ≤ 122) = false := by simp; omega
        have k3 : decide (48 ≤ c) = true := by simp; omega
        have k4 : decide (c ≤ 57) = false := by simp; omega
        have k5 : (c == 45) = false := by simp; try omega
        have hno : nameCh (chz s k) = false := by rw [← hc]; exact hch
        replace hc := Lib.hid hc; replace hch := Lib.hid hch; replace hno := Lib.hid hno; replace h := Lib.hid h
        have hz : isName s = false := by unfold isName; rw [nameTo_no hk1 hno.out]; simp
        replace hz := Lib.hid hz
        go_wp2
        go_ret
        exact ⟨by rw [hz.out]; rfl, hB.out⟩
    · have hc1 : ¬ (k : Int) < s.size := by omega
      have hkn : k = s.size := by omega
      subst hkn
      have hzz : isName s = true := by unfold isName; rw [hy.out]; simp; omega
      replace hzz := Lib.hid hzz
      go_wp2
      go_ret
      exact ⟨by rw [hzz.out]; rfl, hB.out⟩
end Go.Proofs.YteoihdkaoipocaaGreatDoor

/- Numbers in texts: vec.number, spec.number, corveeref03.Number. -/
namespace Go.Proofs.YteoihdkaoipocaaGreatDoor
open Go.RowKit

def isDig (c : Int) : Bool := decide (48 ≤ c) && decide (c ≤ 57)
def digTo (s : ByteArray) : Nat → Bool
  | 0 => true
  | k + 1 => digTo s k && isDig (chz s k)
def numTo (s : ByteArray) : Nat → Int
  | 0 => 0
  | k + 1 => 10 * numTo s k + (chz s k - 48)
/-- the number of a text of at most so many digits; -1: none -/
def numOf (s : ByteArray) (d : Nat) : Int :=
  if s.size = 0 ∨ d < s.size ∨ (1 < s.size ∧ chz s 0 = 48) then -1 else if digTo s s.size = true then numTo s s.size else -1
theorem digTo_le {s : ByteArray} {k n : Nat} (h : digTo s n = true) (hk : k ≤ n) : digTo s k = true := by
  induction n with
  | zero => have : k = 0 := by omega
            subst this; rfl
  | succ n ih =>
    simp only [digTo, Bool.and_eq_true] at h
    by_cases c : k = n + 1
    · subst c; simp [digTo, h]
    · exact ih h.1 (by omega)
theorem digTo_no {s : ByteArray} {k : Nat} (hk : k < s.size) (h : isDig (chz s k) = false) : ¬ digTo s s.size = true := by
  intro c
  have := digTo_le c (show k + 1 ≤ s.size by omega)
  simp [digTo, h] at this
theorem isDig_iff {c : Int} : isDig c = true ↔ 48 ≤ c ∧ c ≤ 57 := by simp [isDig]
theorem numTo_bd {s : ByteArray} {k : Nat} (h : digTo s k = true) : 0 ≤ numTo s k ∧ numTo s k < 10 ^ k := by
  induction k with
  | zero => simp [numTo]
  | succ k ih =>
    simp only [digTo, Bool.and_eq_true] at h
    obtain ⟨h1, h2⟩ := ih h.1
    obtain ⟨h3, h4⟩ := isDig_iff.1 h.2
    rw [Int.pow_succ]
    simp only [numTo]
    omega
theorem numTo_13 {s : ByteArray} {k : Nat} (h : digTo s k = true) (hk : k ≤ 13) : 0 ≤ numTo s k ∧ numTo s k < 10000000000000 := by
  obtain ⟨h1, h2⟩ := numTo_bd h
  refine ⟨h1, Int.lt_of_lt_of_le h2 ?_⟩
  rcases (show k = 0 ∨ k = 1 ∨ k = 2 ∨ k = 3 ∨ k = 4 ∨ k = 5 ∨ k = 6 ∨ k = 7 ∨ k = 8 ∨ k = 9 ∨ k = 10 ∨ k = 11 ∨ k = 12 ∨ k = 13 by omega) with rfl | rfl | rfl | rfl | rfl | rfl | rfl | rfl | rfl | rfl | rfl | rfl | rfl | rfl <;> decide

set_option maxRecDepth 100000 in
set_option maxHeartbeats 3200000 in
theorem vnum_any (s : ByteArray) (w : World) (hs : s.size ≤ maxLen) : Calls Tryz.prog 104 #[.string s] w fun e w' => e = .returned (.int .i64 (numOf s 10)) ∧ Below w.heap.size w w' := by
  have hix : ∀ (k : Nat), k < s.size → ∀ w, (Instr.index 9 (.string s) (.int .i64 (k : Int))).run Tryz.prog w = .ok (.int .u8 (chz s k)) w := fun k hk w => index_at Tryz.underlying9 s k k rfl hk w
  have hsz : decide ((s.size : Int) = 0) = decide (s.size = 0) := decide_eq_decide.2 (by omega)
  by_cases h0 : s.size = 0
  · have k0 : ((s.size : Int) == 0) = true := by rw [h0]; rfl
    have k0' : decide ((s.size : Int) < 1) = true := decide_eq_true (by omega)
    have k0n : decide (s.size < 1) = true := decide_eq_true (by omega)
    have hz : numOf s 10 = -1 := by unfold numOf; rw [if_pos (.inl h0)]
    replace h0 := Lib.hid h0; replace hz := Lib.hid hz; replace hs := Lib.hid hs; replace hix := Lib.hid hix; replace hsz := Lib.hid hsz
    go_enter Tryz.func104, Tryz.ntmps104
    go_wp2
    go_ret
    exact ⟨by rw [hz.out]; rfl, Below.refl _ _⟩
  have k0 : ((s.size : Int) == 0) = false := by simp only [beq_eq_false_iff_ne]; omega
  have k0' : decide ((s.size : Int) < 1) = false := decide_eq_false (by omega)
  have k0n : decide (s.size < 1) = false := decide_eq_false (by omega)
  by_cases h1 : 10 < s.size
  · have k1 : decide ((10 : Int) < s.size) = true := decide_eq_true (by omega)
    have hz : numOf s 10 = -1 := by unfold numOf; rw [if_pos (.inr (.inl h1))]
    replace h0 := Lib.hid h0; replace hz := Lib.hid hz; replace hs := Lib.hid hs; replace hix := Lib.hid hix; replace hsz := Lib.hid hsz
    go_enter Tryz.func104, Tryz.ntmps104
    go_wp2
    go_ret
    exact ⟨by rw [hz.out]; rfl, Below.refl _ _⟩
  have k1 : decide ((10 : Int) < s.size) = false := decide_eq_false (by omega)
  have k1n : decide (10 < s.size) = false := decide_eq_false h1
  have hi0 : ∀ w, (Instr.index 9 (.string s) (.int .i64 0)).run Tryz.prog w = .ok (.int .u8 (chz s 0)) w := hix 0 (by omega)
  obtain ⟨c0, hc0⟩ : ∃ c, c = chz s 0 := ⟨_, rfl⟩
  rw [← hc0] at hi0
  by_cases h2 : 1 < s.size ∧ c0 = 48
  · have k2 : decide ((1 : Int) < s.size) = true := decide_eq_true (by omega)
    have k3 : (c0 == 48) = true := by simp [h2.2]
    have hz : numOf s 10 = -1 := by unfold numOf; rw [if_pos (.inr (.inr (by rw [← hc0]; exact h2)))]
    replace h0 := Lib.hid h0; replace h1 := Lib.hid h1; replace h2 := Lib.hid h2; replace hz := Lib.hid hz; replace hs := Lib.hid hs; replace hix := Lib.hid hix; replace hsz := Lib.hid hsz; replace hc0 := Lib.hid hc0
    go_enter Tryz.func104, Tryz.ntmps104
    go_wp2
    go_ret
    exact ⟨by rw [hz.out]; rfl, Below.refl _ _⟩
  have hsp : decide ((1 : Int) < s.size) = false ∨ (decide ((1 : Int) < s.size) = true ∧ (c0 == 48) = false) := by
    by_cases c : 1 < s.size
    · refine .inr ⟨decide_eq_true (by omega), ?_⟩
      simp only [beq_eq_false_iff_ne]; intro e; exact h2 ⟨c, e⟩
    · exact .inl (decide_eq_false (by omega))
  have hne : ¬ (s.size = 0 ∨ 10 < s.size ∨ (1 < s.size ∧ chz s 0 = 48)) := by rw [← hc0]; omega
  have h13 : s.size ≤ 13 := by omega
  have hmx : s.size ≤ 13 := by omega
  clear h2 h1 h0 hs
  replace hix := Lib.hid hix; replace hne := Lib.hid hne; replace h13 := Lib.hid h13; replace hsz := Lib.hid hsz; replace hc0 := Lib.hid hc0
  rcases hsp with k2 | ⟨k2, k3⟩
  all_goals
    go_enter Tryz.func104, Tryz.ntmps104
    go_wp2
    go_loopw [3, 4, 25] (fun n _ i wr => ∃ k : Nat, i = .int .i64 k ∧ n = .int .i64 (numTo s k) ∧ k ≤ s.size ∧ Hid (digTo s k = true) ∧ Hid (Below w.heap.size w wr)) (fun _ _ i _ => s.size - (intOf i).toNat)
    case atStart => exact ⟨0, rfl, rfl, Nat.zero_le _, rfl, Below.refl _ _⟩
    case round =>
      obtain ⟨k, rfl, rfl, hk, hy, hB⟩ := hrel
      clear k0 k0' k0n k1 k1n hi0
      try clear k3
      clear k2
      by_cases hk1 : k < s.size
      · have hc1 : (k : Int) < s.size := by omega
        have hi1 := hix.out k hk1
        obtain ⟨c, hc⟩ : ∃ c, c = chz s k := ⟨_, rfl⟩
        rw [← hc] at hi1
        by_cases hd : isDig c = true
        · obtain ⟨q1, q2⟩ := isDig_iff.1 hd
          have k1 : decide (c < 48) = false := decide_eq_false (by omega)
          have k2 : decide (57 < c) = false := decide_eq_false (by omega)
          have hy2 : digTo s (k + 1) = true := by simp only [digTo, hy.out, ← hc, hd, Bool.and_self]
          obtain ⟨n, hn⟩ : ∃ n, n = numTo s k := ⟨_, rfl⟩
          rw [← hn]
          have hbd := numTo_13 hy.out (by have := h13.out; omega)
          rw [← hn] at hbd
          have ew1 : IntKind.i64.wrap (n * 10) = n * 10 := IntWalk.i64_in _ (by omega)
          have ew1' : IntKind.i64.wrap (10 * n) = 10 * n := IntWalk.i64_in _ (by omega)
          have ew2 : IntKind.u8.wrap (c - 48) = c - 48 := IntWalk.u8_in _ (by omega)
          have ew3 : IntKind.i64.wrap (c - 48) = c - 48 := IntWalk.i64_in _ (by omega)
          have ew4 : IntKind.i64.wrap (n * 10 + (c - 48)) = n * 10 + (c - 48) := IntWalk.i64_in _ (by omega)
          have ew4' : IntKind.i64.wrap (10 * n + (c - 48)) = 10 * n + (c - 48) := IntWalk.i64_in _ (by omega)
          have hn2 : numTo s (k + 1) = 10 * n + (c - 48) := by simp only [numTo, ← hn, ← hc]
          replace hc := Lib.hid hc; replace hd := Lib.hid hd; replace q1 := Lib.hid q1; replace q2 := Lib.hid q2; replace hy2 := Lib.hid hy2; replace hn := Lib.hid hn; replace hbd := Lib.hid hbd; replace hn2 := Lib.hid hn2
          go_wp2
          go_roundw
          case rel => exact ⟨k + 1, by go_num, by first | rfl | (rw [hn2.out]; done) | (rw [hn2.out]; go_num) | (rw [hn2.out]; congr 1; omega) | (rw [hn2.out]; congr 1), by omega, hy2.out, hB.out⟩
          case measure => simp [intOf]; omega
        · have hno : isDig (chz s k) = false := by rw [← hc]; simpa using hd
          have hz : numOf s 10 = -1 := by unfold numOf; rw [if_neg hne.out, if_neg (digTo_no hk1 hno)]
          have hdd : c < 48 ∨ 57 < c := by
            apply Classical.byContradiction; intro q
            exact hd (isDig_iff.2 (by omega))
          replace hc := Lib.hid hc; replace hd := Lib.hid hd; replace hno := Lib.hid hno; replace hz := Lib.hid hz
          rcases hdd with q | q
          · have k1 : decide (c < 48) = true := decide_eq_true q
            go_wp2
            go_ret
            exact ⟨by rw [hz.out]; rfl, hB.out⟩
          · have k1 : decide (c < 48) = false := decide_eq_false (by omega)
            have k2 : decide (57 < c) = true := decide_eq_true q
            go_wp2
            go_ret
            exact ⟨by rw [hz.out]; rfl, hB.out⟩
      · have hc1 : ¬ (k : Int) < s.size := by omega
        have hkn : k = s.size := by omega
        subst hkn
        have hz : numOf s 10 = numTo s s.size := by unfold numOf; rw [if_neg hne.out, if_pos hy.out]
        replace hz := Lib.hid hz
        go_wp2
        go_ret
        exact ⟨by rw [hz.out]; rfl, hB.out⟩
set_option maxRecDepth 100000 in
set_option maxHeartbeats 3200000 in
theorem snum_any (s : ByteArray) (w : World) (hs : s.size ≤ maxLen) : Calls Tryz.prog 122 #[.string s] w fun e w' => e = .returned (.int .i64 (numOf s 13)) ∧ Below w.heap.size w w' := by
  have hix : ∀ (k : Nat), k < s.size → ∀ w, (Instr.index 9 (.string s) (.int .i64 (k : Int))).run Tryz.prog w = .ok (.int .u8 (chz s k)) w := fun k hk w => index_at Tryz.underlying9 s k k rfl hk w
  have hsz : decide ((s.size : Int) = 0) = decide (s.size = 0) := decide_eq_decide.2 (by omega)
  by_cases h0 : s.size = 0
  · have k0 : ((s.size : Int) == 0) = true := by rw [h0]; rfl
    have k0' : decide ((s.size : Int) < 1) = true := decide_eq_true (by omega)
    have k0n : decide (s.size < 1) = true := decide_eq_true (by omega)
    have hz : numOf s 13 = -1 := by unfold numOf; rw [if_pos (.inl h0)]
    replace h0 := Lib.hid h0; replace hz := Lib.hid hz; replace hs := Lib.hid hs; replace hix := Lib.hid hix; replace hsz := Lib.hid hsz
    go_enter Tryz.func122, Tryz.ntmps122
    go_wp2
    go_ret
    exact ⟨by rw [hz.out]; rfl, Below.refl _ _⟩
  have k0 : ((s.size : Int) == 0) = false := by simp only [beq_eq_false_iff_ne]; omega
  have k0' : decide ((s.size : Int) < 1) = false := decide_eq_false (by omega)
  have k0n : decide (s.size < 1) = false := decide_eq_false (by omega)
  by_cases h1 : 13 < s.size
  · have k1 : decide ((13 : Int) < s.size) = true := decide_eq_true (by omega)
    have hz : numOf s 13 = -1 := by unfold numOf; rw [if_pos (.inr (.inl h1))]
    replace h0 := Lib.hid h0; replace hz := Lib.hid hz; replace hs := Lib.hid hs; replace hix := Lib.hid hix; replace hsz := Lib.hid hsz
    go_enter Tryz.func122, Tryz.ntmps122
    go_wp2
    go_ret
    exact ⟨by rw [hz.out]; rfl, Below.refl _ _⟩
  have k1 : decide ((13 : Int) < s.size) = false := decide_eq_false (by omega)
  have k1n : decide (13 < s.size) = false := decide_eq_false h1
  have hi0 : ∀ w, (Instr.index 9 (.string s) (.int .i64 0)).run Tryz.prog w = .ok (.int .u8 (chz s 0)) w := hix 0 (by omega)
  obtain ⟨c0, hc0⟩ : ∃ c, c = chz s 0 := ⟨_, rfl⟩
  rw [← hc0] at hi0
  by_cases h2 : 1 < s.size ∧ c0 = 48
  · have k2 : decide ((1 : Int) < s.size) = true := decide_eq_true (by omega)
    have k3 : (c0 == 48) = true := by simp [h2.2]
    have hz : numOf s 13 = -1 := by unfold numOf; rw [if_pos (.inr (.inr (by rw [← hc0]; exact h2)))]
    replace h0 := Lib.hid h0; replace h1 := Lib.hid h1; replace h2 := Lib.hid h2; replace hz := Lib.hid hz; replace hs := Lib.hid hs; replace hix := Lib.hid hix; replace hsz := Lib.hid hsz; replace hc0 := Lib.hid hc0
    go_enter Tryz.func122, Tryz.ntmps122
    go_wp2
    go_ret
    exact ⟨by rw [hz.out]; rfl, Below.refl _ _⟩
  have hsp : decide ((1 : Int) < s.size) = false ∨ (decide ((1 : Int) < s.size) = true ∧ (c0 == 48) = false) := by
    by_cases c : 1 < s.size
    · refine .inr ⟨decide_eq_true (by omega), ?_⟩
      simp only [beq_eq_false_iff_ne]; intro e; exact h2 ⟨c, e⟩
    · exact .inl (decide_eq_false (by omega))
  have hne : ¬ (s.size = 0 ∨ 13 < s.size ∨ (1 < s.size ∧ chz s 0 = 48)) := by rw [← hc0]; omega
  have h13 : s.size ≤ 13 := by omega
  have hmx : s.size ≤ 13 := by omega
  clear h2 h1 h0 hs
  replace hix := Lib.hid hix; replace hne := Lib.hid hne; replace h13 := Lib.hid h13; replace hsz := Lib.hid hsz; replace hc0 := Lib.hid hc0
  rcases hsp with k2 | ⟨k2, k3⟩
  all_goals
    go_enter Tryz.func122, Tryz.ntmps122
    go_wp2
    go_loopw [3, 4, 25] (fun n _ i wr => ∃ k : Nat, i = .int .i64 k ∧ n = .int .i64 (numTo s k) ∧ k ≤ s.size ∧ Hid (digTo s k = true) ∧ Hid (Below w.heap.size w wr)) (fun _ _ i _ => s.size - (intOf i).toNat)
    case atStart => exact ⟨0, rfl, rfl, Nat.zero_le _, rfl, Below.refl _ _⟩
    case round =>
      obtain ⟨k, rfl, rfl, hk, hy, hB⟩ := hrel
      clear k0 k0' k0n k1 k1n hi0
      try clear k3
      clear k2
      by_cases hk1 : k < s.size
      · have hc1 : (k : Int) < s.size := by omega
        have hi1 := hix.out k hk1
        obtain ⟨c, hc⟩ : ∃ c, c = chz s k := ⟨_, rfl⟩
        rw [← hc] at hi1
        by_cases hd : isDig c = true
        · obtain ⟨q1, q2⟩ := isDig_iff.1 hd
          have k1 : decide (c < 48) = false := decide_eq_false (by omega)
          have k2 : decide (57 < c) = false := decide_eq_false (by omega)
          have hy2 : digTo s (k + 1) = true := by simp only [digTo, hy.out, ← hc, hd, Bool.and_self]
          obtain ⟨n, hn⟩ : ∃ n, n = numTo s k := ⟨_, rfl⟩
          rw [← hn]
          have hbd := numTo_13 hy.out (by have := h13.out; omega)
          rw [← hn] at hbd
          have ew1 : IntKind.i64.wrap (n * 10) = n * 10 := IntWalk.i64_in _ (by omega)
          have ew1' : IntKind.i64.wrap (10 * n) = 10 * n := IntWalk.i64_in _ (by omega)
          have ew2 : IntKind.u8.wrap (c - 48) = c - 48 := IntWalk.u8_in _ (by omega)
          have ew3 : IntKind.i64.wrap (c - 48) = c - 48 := IntWalk.i64_in _ (by omega)
          have ew4 : IntKind.i64.wrap (n * 10 + (c - 48)) = n * 10 + (c - 48) := IntWalk.i64_in _ (by omega)
          have ew4' : IntKind.i64.wrap (10 * n + (c - 48)) = 10 * n + (c - 48) := IntWalk.i64_in _ (by omega)
          have hn2 : numTo s (k + 1) = 10 * n + (c - 48) := by simp only [numTo, ← hn, ← hc]
          replace hc := Lib.hid hc; replace hd := Lib.hid hd; replace q1 := Lib.hid q1; replace q2 := Lib.hid q2; replace hy2 := Lib.hid hy2; replace hn := Lib.hid hn; replace hbd := Lib.hid hbd; replace hn2 := Lib.hid hn2
          go_wp2
          go_roundw
          case rel => exact ⟨k + 1, by go_num, by first | rfl | (rw [hn2.out]; done) | (rw [hn2.out]; go_num) | (rw [hn2.out]; congr 1; omega) | (rw [hn2.out]; congr 1), by omega, hy2.out, hB.out⟩
          case measure => simp [intOf]; omega
        · have hno : isDig (chz s k) = false := by rw [← hc]; simpa using hd
          have hz : numOf s 13 = -1 := by unfold numOf; rw [if_neg hne.out, if_neg (digTo_no hk1 hno)]
          have hdd : c < 48 ∨ 57 < c := by
            apply Classical.byContradiction; intro q
            exact hd (isDig_iff.2 (by omega))
          replace hc := Lib.hid hc; replace hd := Lib.hid hd; replace hno := Lib.hid hno; replace hz := Lib.hid hz
          rcases hdd with q | q
          · have k1 : decide (c < 48) = true := decide_eq_true q
            go_wp2
            go_ret
            exact ⟨by rw [hz.out]; rfl, hB.out⟩
          · have k1 : decide (c < 48) = false := decide_eq_false (by omega)
            have k2 : decide (57 < c) = true := decide_eq_true q
            go_wp2
            go_ret
            exact ⟨by rw [hz.out]; rfl, hB.out⟩
      · have hc1 : ¬ (k : Int) < s.size := by omega
        have hkn : k = s.size := by omega
        subst hkn
        have hz : numOf s 13 = numTo s s.size := by unfold numOf; rw [if_neg hne.out, if_pos hy.out]
        replace hz := Lib.hid hz
        go_wp2
        go_ret
        exact ⟨by rw [hz.out]; rfl, hB.out⟩
set_option maxRecDepth 100000 in
set_option maxHeartbeats 3200000 in
theorem rnum_any (s : ByteArray) (d : Nat) (w : World) (hs : s.size ≤ maxLen) (hd13 : d ≤ 13) : Calls Tryz.prog 106 #[.string s, .int .i64 (d : Int)] w fun e w' => e = .returned (.int .i64 (numOf s d)) ∧ Below w.heap.size w w' := by
  have hix : ∀ (k : Nat), k < s.size → ∀ w, (Instr.index 9 (.string s) (.int .i64 (k : Int))).run Tryz.prog w = .ok (.int .u8 (chz s k)) w := fun k hk w => index_at Tryz.underlying9 s k k rfl hk w
  have hsz : decide ((s.size : Int) = 0) = decide (s.size = 0) := decide_eq_decide.2 (by omega)
  by_cases h0 : s.size = 0
  · have k0 : ((s.size : Int) == 0) = true := by rw [h0]; rfl
    have k0' : decide ((s.size : Int) < 1) = true := decide_eq_true (by omega)
    have k0n : decide (s.size < 1) = true := decide_eq_true (by omega)
    have hz : numOf s d = -1 := by unfold numOf; rw [if_pos (.inl h0)]
    replace h0 := Lib.hid h0; replace hz := Lib.hid hz; replace hs := Lib.hid hs; replace hix := Lib.hid hix; replace hsz := Lib.hid hsz
    go_enter Tryz.func106, Tryz.ntmps106
    go_wp2
    go_ret
    exact ⟨by rw [hz.out]; rfl, Below.refl _ _⟩
  have k0 : ((s.size : Int) == 0) = false := by simp only [beq_eq_false_iff_ne]; omega
  have k0' : decide ((s.size : Int) < 1) = false := decide_eq_false (by omega)
  have k0n : decide (s.size < 1) = false := decide_eq_false (by omega)
  by_cases h1 : d < s.size
  · have k1 : decide ((d : Int) < s.size) = true := decide_eq_true (by omega)
    have hz : numOf s d = -1 := by unfold numOf; rw [if_pos (.inr (.inl h1))]
    replace h0 := Lib.hid h0; replace hz := Lib.hid hz; replace hs := Lib.hid hs; replace hix := Lib.hid hix; replace hsz := Lib.hid hsz
    go_enter Tryz.func106, Tryz.ntmps106
    go_wp2
    go_ret
    exact ⟨by rw [hz.out]; rfl, Below.refl _ _⟩
  have k1 : decide ((d : Int) < s.size) = false := decide_eq_false (by omega)
  have k1n : decide (d < s.size) = false := decide_eq_false h1
  have hi0 : ∀ w, (Instr.index 9 (.string s) (.int .i64 0)).run Tryz.prog w = .ok (.int .u8 (chz s 0)) w := hix 0 (by omega)
  obtain ⟨c0, hc0⟩ : ∃ c, c = chz s 0 := ⟨_, rfl⟩
  rw [← hc0] at hi0
  by_cases h2 : 1 < s.size ∧ c0 = 48
  · have k2 : decide ((1 : Int) < s.size) = true := decide_eq_true (by omega)
    have k3 : (c0 == 48) = true := by simp [h2.2]
    have hz : numOf s d = -1 := by unfold numOf; rw [if_pos (.inr (.inr (by rw [← hc0]; exact h2)))]
    replace h0 := Lib.hid h0; replace h1 := Lib.hid h1; replace h2 := Lib.hid h2; replace hz := Lib.hid hz; replace hs := Lib.hid hs; replace hix := Lib.hid hix; replace hsz := Lib.hid hsz; replace hc0 := Lib.hid hc0
    go_enter Tryz.func106, Tryz.ntmps106
    go_wp2
    go_ret
    exact ⟨by rw [hz.out]; rfl, Below.refl _ _⟩
  have hsp : decide ((1 : Int) < s.size) = false ∨ (decide ((1 : Int) < s.size) = true ∧ (c0 == 48) = false) := by
    by_cases c : 1 < s.size
    · refine .inr ⟨decide_eq_true (by omega), ?_⟩
      simp only [beq_eq_false_iff_ne]; intro e; exact h2 ⟨c, e⟩
    · exact .inl (decide_eq_false (by omega))
  have hne : ¬ (s.size = 0 ∨ d < s.size ∨ (1 < s.size ∧ chz s 0 = 48)) := by rw [← hc0]; omega
  have h13 : s.size ≤ 13 := by omega
  have hmx : s.size ≤ 13 := by omega
  clear h2 h1 h0 hs
  replace hix := Lib.hid hix; replace hne := Lib.hid hne; replace h13 := Lib.hid h13; replace hsz := Lib.hid hsz; replace hc0 := Lib.hid hc0
  rcases hsp with k2 | ⟨k2, k3⟩
  all_goals
    go_enter Tryz.func106, Tryz.ntmps106
    go_wp2
    go_loopw [5, 6] (fun n i wr => ∃ k : Nat, i = .int .i64 k ∧ n = .int .i64 (numTo s k) ∧ k ≤ s.size ∧ Hid (digTo s k = true) ∧ Hid (Below w.heap.size w wr)) (fun _ i _ => s.size - (intOf i).toNat)
    case atStart => exact ⟨0, rfl, rfl, Nat.zero_le _, rfl, Below.refl _ _⟩
    case round =>
      obtain ⟨k, rfl, rfl, hk, hy, hB⟩ := hrel
      clear k0 k0' k0n k1 k1n hi0
      try clear k3
      clear k2
      by_cases hk1 : k < s.size
      · have hc1 : (k : Int) < s.size := by omega
        have hi1 := hix.out k hk1
        obtain ⟨c, hc⟩ : ∃ c, c = chz s k := ⟨_, rfl⟩
        rw [← hc] at hi1
        by_cases hd : isDig c = true
        · obtain ⟨q1, q2⟩ := isDig_iff.1 hd
          have k1 : decide (c < 48) = false := decide_eq_false (by omega)
          have k2 : decide (57 < c) = false := decide_eq_false (by omega)
          have hy2 : digTo s (k + 1) = true := by simp only [digTo, hy.out, ← hc, hd, Bool.and_self]
          obtain ⟨n, hn⟩ : ∃ n, n = numTo s k := ⟨_, rfl⟩
          rw [← hn]
          have hbd := numTo_13 hy.out (by have := h13.out; omega)
          rw [← hn] at hbd
          have ew1 : IntKind.i64.wrap (n * 10) = n * 10 := IntWalk.i64_in _ (by omega)
          have ew1' : IntKind.i64.wrap (10 * n) = 10 * n := IntWalk.i64_in _ (by omega)
          have ew2 : IntKind.u8.wrap (c - 48) = c - 48 := IntWalk.u8_in _ (by omega)
          have ew3 : IntKind.i64.wrap (c - 48) = c - 48 := IntWalk.i64_in _ (by omega)
          have ew4 : IntKind.i64.wrap (n * 10 + (c - 48)) = n * 10 + (c - 48) := IntWalk.i64_in _ (by omega)
          have ew4' : IntKind.i64.wrap (10 * n + (c - 48)) = 10 * n + (c - 48) := IntWalk.i64_in _ (by omega)
          have hn2 : numTo s (k + 1) = 10 * n + (c - 48) := by simp only [numTo, ← hn, ← hc]
          replace hc := Lib.hid hc; replace hd := Lib.hid hd; replace q1 := Lib.hid q1; replace q2 := Lib.hid q2; replace hy2 := Lib.hid hy2; replace hn := Lib.hid hn; replace hbd := Lib.hid hbd; replace hn2 := Lib.hid hn2
          go_wp2
          go_roundw
          case rel => exact ⟨k + 1, by go_num, by first | rfl | (rw [hn2.out]; done) | (rw [hn2.out]; go_num) | (rw [hn2.out]; congr 1; omega) | (rw [hn2.out]; congr 1), by omega, hy2.out, hB.out⟩
          case measure => simp [intOf]; omega
        · have hno : isDig (chz s k) = false := by rw [← hc]; simpa using hd
          have hz : numOf s d = -1 := by unfold numOf; rw [if_neg hne.out, if_neg (digTo_no hk1 hno)]
          have hdd : c < 48 ∨ 57 < c := by
            apply Classical.byContradiction; intro q
            exact hd (isDig_iff.2 (by omega))
          replace hc := Lib.hid hc; replace hd := Lib.hid hd; replace hno := Lib.hid hno; replace hz := Lib.hid hz
          rcases hdd with q | q
          · have k1 : decide (c < 48) = true := decide_eq_true q
            go_wp2
            go_ret
            exact ⟨by rw [hz.out]; rfl, hB.out⟩
          · have k1 : decide (c < 48) = false := decide_eq_false (by omega)
            have k2 : decide (57 < c) = true := decide_eq_true q
            go_wp2
            go_ret
            exact ⟨by rw [hz.out]; rfl, hB.out⟩
      · have hc1 : ¬ (k : Int) < s.size := by omega
        have hkn : k = s.size := by omega
        subst hkn
        have hz : numOf s d = numTo s s.size := by unfold numOf; rw [if_neg hne.out, if_pos hy.out]
        replace hz := Lib.hid hz
        go_wp2
        go_ret
        exact ⟨by rw [hz.out]; rfl, hB.out⟩
end Go.Proofs.YteoihdkaoipocaaGreatDoor

/- The library's contracts, laid at this translation by the kit's tools (lay-shelf, lay-plain), comments struck. No condition. -/
namespace Go.Proofs
open Go.Shelf
def Tryz.lays169_ren : Go.Shelf.Ren := ⟨fun | 169 => 103 | n => n, fun | 70 => 137 | 9 => 9 | 0 => 0 | 72 => 139 | 37 => 40 | 127 => 164 | 3 => 3 | 5 => 5 | n => n, fun | n => n⟩
theorem Tryz.lays169 : Go.Proofs.Lays.n169 Tryz.prog Tryz.lays169_ren := {
  mixed := by kernel_rfl
  f169 := Tryz.func103.trans (congrArg some (by kernel_rfl))
  t0 := Tryz.underlying0
  a0 := Tryz.isAgg0
  z0 := Tryz.sizeOf0
  v0 := Tryz.zeroValue0
  t3 := Tryz.underlying3
  a3 := Tryz.isAgg3
  z3 := Tryz.sizeOf3
  v3 := Tryz.zeroValue3
  t9 := Tryz.underlying9
  a9 := Tryz.isAgg9
  z9 := Tryz.sizeOf9
  v9 := Tryz.zeroValue9
  t37 := Tryz.underlying40
  a37 := Tryz.isAgg40
  z37 := Tryz.sizeOf40
  v37 := Tryz.zeroValue40
  t70 := Tryz.underlying137
  a70 := Tryz.isAgg137
  z70 := Tryz.sizeOf137
  v70 := Tryz.zeroValue137
  t72 := Tryz.underlying139
  a72 := Tryz.isAgg139
  z72 := Tryz.sizeOf139
  v72 := Tryz.zeroValue139
  t127 := Tryz.underlying164
  a127 := Tryz.isAgg164
  z127 := Tryz.sizeOf164
  v127 := Tryz.zeroValue164 }
theorem Tryz.Builder_Extra_169 : Builder.Extra Tryz.prog Tryz.lays169_ren := {
  sizeBuilder := by kernel_rfl
  liesBuilder := by kernel_rfl
  t5 := Tryz.underlying5
  a5 := Tryz.isAgg5
  z5 := Tryz.sizeOf5
  v5 := Tryz.zeroValue5
  infoByte := by kernel_rfl
  cellsByte := by kernel_rfl
  sizeByte := by kernel_rfl
  neB5 := by decide }
open Go.RowKit in
theorem Tryz.Builder_String (B b : Nat) (l : List UInt8) (w : World) (h : Lib.IsBuilder 139 5 B b (Lib.byteCells l) w) (h0 : l ≠ []) :
    Calls Tryz.prog 103 #[.pointer (some ⟨b, 0, none⟩)] w fun e w' => e = .returned (.string ⟨l.toArray⟩) ∧ Below B w w' := Any.Builder_String Tryz.lays169 Tryz.Builder_Extra_169 B b l w h h0
open Go.RowKit in
theorem Tryz.Builder_String_empty (B b : Nat) (w : World) (h : Lib.IsBuilder 139 5 B b [] w) (hBw : B ≤ w.heap.size) :
    Calls Tryz.prog 103 #[.pointer (some ⟨b, 0, none⟩)] w fun e w' => e = .returned (.string ⟨#[]⟩) ∧ Below B w w' := Any.Builder_String_empty Tryz.lays169 Tryz.Builder_Extra_169 B b w h hBw
open Go.RowKit in
theorem Tryz.Builder_String_any (B b : Nat) (l : List UInt8) (w : World) (h : Lib.IsBuilder 139 5 B b (Lib.byteCells l) w) (hBw : B ≤ w.heap.size) :
    Calls Tryz.prog 103 #[.pointer (some ⟨b, 0, none⟩)] w fun e w' => e = .returned (.string ⟨l.toArray⟩) ∧ Below B w w' := Any.Builder_String_any Tryz.lays169 Tryz.Builder_Extra_169 B b l w h hBw
def Tryz.lays241_ren : Go.Shelf.Ren := ⟨fun | 241 => 128 | 277 => 147 | n => n, fun | 70 => 137 | 3 => 3 | 0 => 0 | 72 => 139 | 37 => 40 | 5 => 5 | n => n, fun | n => n⟩
theorem Tryz.lays241 : Go.Proofs.Lays.n241 Tryz.prog Tryz.lays241_ren := {
  mixed := by kernel_rfl
  f241 := Tryz.func128.trans (congrArg some (by kernel_rfl))
  f277 := Tryz.func147.trans (congrArg some (by kernel_rfl))
  t0 := Tryz.underlying0
  a0 := Tryz.isAgg0
  z0 := Tryz.sizeOf0
  v0 := Tryz.zeroValue0
  t3 := Tryz.underlying3
  a3 := Tryz.isAgg3
  z3 := Tryz.sizeOf3
  v3 := Tryz.zeroValue3
  t37 := Tryz.underlying40
  a37 := Tryz.isAgg40
  z37 := Tryz.sizeOf40
  v37 := Tryz.zeroValue40
  t70 := Tryz.underlying137
  a70 := Tryz.isAgg137
  z70 := Tryz.sizeOf137
  v70 := Tryz.zeroValue137
  t72 := Tryz.underlying139
  a72 := Tryz.isAgg139
  z72 := Tryz.sizeOf139
  v72 := Tryz.zeroValue139 }
theorem Tryz.Builder_Extra_241 : Builder.Extra Tryz.prog Tryz.lays241_ren := {
  sizeBuilder := by kernel_rfl
  liesBuilder := by kernel_rfl
  t5 := Tryz.underlying5
  a5 := Tryz.isAgg5
  z5 := Tryz.sizeOf5
  v5 := Tryz.zeroValue5
  infoByte := by kernel_rfl
  cellsByte := by kernel_rfl
  sizeByte := by kernel_rfl
  neB5 := by decide }
open Go.RowKit in
theorem Tryz.Builder_grow_fresh (B b n : Nat) (w : World) (hB : B ≤ b) (hbk : w.heap[b]? = some (.cells #[.pointer (some ⟨b, 0, none⟩), .slice none 0 0] 139 (0, 0))) (hBw : B ≤ w.heap.size) (hn : n ≤ 281474976710656) :
    Calls Tryz.prog 128 #[.pointer (some ⟨b, 0, none⟩), .int .i64 n] w fun e w' => e = .returned (.tuple #[]) ∧ (Lib.BuilderAt 139 5 B b (.pointer (some ⟨b, 0, none⟩)) [] w' ∧ Below B w w') := Any.Builder_grow_fresh Tryz.lays241 Tryz.Builder_Extra_241 B b n w hB hbk hBw hn
def Tryz.lays165_ren : Go.Shelf.Ren := ⟨fun | 165 => 101 | 240 => 127 | 241 => 128 | 276 => 146 | 277 => 147 | n => n, fun | 70 => 137 | 3 => 3 | 0 => 0 | 4 => 4 | 9 => 9 | 20 => 20 | 72 => 139 | 37 => 40 | 164 => 179 | 5 => 5 | n => n, fun | n => n⟩
theorem Tryz.lays165 : Go.Proofs.Lays.n165 Tryz.prog Tryz.lays165_ren := {
  mixed := by kernel_rfl
  f165 := Tryz.func101.trans (congrArg some (by kernel_rfl))
  f240 := Tryz.func127.trans (congrArg some (by kernel_rfl))
  f241 := Tryz.func128.trans (congrArg some (by kernel_rfl))
  f276 := Tryz.func146.trans (congrArg some (by kernel_rfl))
  f277 := Tryz.func147.trans (congrArg some (by kernel_rfl))
  t0 := Tryz.underlying0
  a0 := Tryz.isAgg0
  z0 := Tryz.sizeOf0
  v0 := Tryz.zeroValue0
  t3 := Tryz.underlying3
  a3 := Tryz.isAgg3
  z3 := Tryz.sizeOf3
  v3 := Tryz.zeroValue3
  t4 := Tryz.underlying4
  a4 := Tryz.isAgg4
  z4 := Tryz.sizeOf4
  v4 := Tryz.zeroValue4
  t9 := Tryz.underlying9
  a9 := Tryz.isAgg9
  z9 := Tryz.sizeOf9
  v9 := Tryz.zeroValue9
  t20 := Tryz.underlying20
  a20 := Tryz.isAgg20
  z20 := Tryz.sizeOf20
  v20 := Tryz.zeroValue20
  t37 := Tryz.underlying40
  a37 := Tryz.isAgg40
  z37 := Tryz.sizeOf40
  v37 := Tryz.zeroValue40
  t70 := Tryz.underlying137
  a70 := Tryz.isAgg137
  z70 := Tryz.sizeOf137
  v70 := Tryz.zeroValue137
  t72 := Tryz.underlying139
  a72 := Tryz.isAgg139
  z72 := Tryz.sizeOf139
  v72 := Tryz.zeroValue139
  t164 := Tryz.underlying179
  a164 := Tryz.isAgg179
  z164 := Tryz.sizeOf179
  v164 := Tryz.zeroValue179 }
theorem Tryz.Builder_Extra_165 : Builder.Extra Tryz.prog Tryz.lays165_ren := {
  sizeBuilder := by kernel_rfl
  liesBuilder := by kernel_rfl
  t5 := Tryz.underlying5
  a5 := Tryz.isAgg5
  z5 := Tryz.sizeOf5
  v5 := Tryz.zeroValue5
  infoByte := by kernel_rfl
  cellsByte := by kernel_rfl
  sizeByte := by kernel_rfl
  neB5 := by decide }
open Go.RowKit in
theorem Tryz.Builder_Grow_fresh (B b n : Nat) (w : World) (hB : B ≤ b) (hbk : w.heap[b]? = some (.cells #[.pointer none, .slice none 0 0] 139 (0, 0))) (hBw : B ≤ w.heap.size) (hn : n ≤ 281474976710656) :
    Calls Tryz.prog 101 #[.pointer (some ⟨b, 0, none⟩), .int .i64 n] w fun e w' => e = .returned (.tuple #[]) ∧ (Lib.BuilderAt 139 5 B b (.pointer (some ⟨b, 0, none⟩)) [] w' ∧ Below B w w') := Any.Builder_Grow_fresh Tryz.lays165 Tryz.Builder_Extra_165 B b n w hB hbk hBw hn
def Tryz.lays156_ren : Go.Shelf.Ren := ⟨fun | 156 => 65 | 165 => 101 | 166 => 102 | 169 => 103 | 240 => 127 | 241 => 128 | 276 => 146 | 277 => 147 | n => n, fun | 31 => 71 | 9 => 9 | 3 => 3 | 4 => 4 | 0 => 0 | 20 => 20 | 72 => 139 | 76 => 143 | 70 => 137 | 37 => 40 | 75 => 142 | 127 => 164 | 164 => 179 | 5 => 5 | 80 => 145 | n => n, fun | n => n⟩
theorem Tryz.lays156 : Go.Proofs.Lays.n156 Tryz.prog Tryz.lays156_ren := {
  mixed := by kernel_rfl
  f156 := Tryz.func65.trans (congrArg some (by kernel_rfl))
  f165 := Tryz.func101.trans (congrArg some (by kernel_rfl))
  f166 := Tryz.func102.trans (congrArg some (by kernel_rfl))
  f169 := Tryz.func103.trans (congrArg some (by kernel_rfl))
  f240 := Tryz.func127.trans (congrArg some (by kernel_rfl))
  f241 := Tryz.func128.trans (congrArg some (by kernel_rfl))
  f276 := Tryz.func146.trans (congrArg some (by kernel_rfl))
  f277 := Tryz.func147.trans (congrArg some (by kernel_rfl))
  t0 := Tryz.underlying0
  a0 := Tryz.isAgg0
  z0 := Tryz.sizeOf0
  v0 := Tryz.zeroValue0
  t3 := Tryz.underlying3
  a3 := Tryz.isAgg3
  z3 := Tryz.sizeOf3
  v3 := Tryz.zeroValue3
  t4 := Tryz.underlying4
  a4 := Tryz.isAgg4
  z4 := Tryz.sizeOf4
  v4 := Tryz.zeroValue4
  t9 := Tryz.underlying9
  a9 := Tryz.isAgg9
  z9 := Tryz.sizeOf9
  v9 := Tryz.zeroValue9
  t20 := Tryz.underlying20
  a20 := Tryz.isAgg20
  z20 := Tryz.sizeOf20
  v20 := Tryz.zeroValue20
  t31 := Tryz.underlying71
  a31 := Tryz.isAgg71
  z31 := Tryz.sizeOf71
  v31 := Tryz.zeroValue71
  t37 := Tryz.underlying40
  a37 := Tryz.isAgg40
  z37 := Tryz.sizeOf40
  v37 := Tryz.zeroValue40
  t70 := Tryz.underlying137
  a70 := Tryz.isAgg137
  z70 := Tryz.sizeOf137
  v70 := Tryz.zeroValue137
  t72 := Tryz.underlying139
  a72 := Tryz.isAgg139
  z72 := Tryz.sizeOf139
  v72 := Tryz.zeroValue139
  t75 := Tryz.underlying142
  a75 := Tryz.isAgg142
  z75 := Tryz.sizeOf142
  v75 := Tryz.zeroValue142
  t76 := Tryz.underlying143
  a76 := Tryz.isAgg143
  z76 := Tryz.sizeOf143
  v76 := Tryz.zeroValue143
  t127 := Tryz.underlying164
  a127 := Tryz.isAgg164
  z127 := Tryz.sizeOf164
  v127 := Tryz.zeroValue164
  t164 := Tryz.underlying179
  a164 := Tryz.isAgg179
  z164 := Tryz.sizeOf179
  v164 := Tryz.zeroValue179 }
theorem Tryz.Builder_Extra_156 : Builder.Extra Tryz.prog Tryz.lays156_ren := {
  sizeBuilder := by kernel_rfl
  liesBuilder := by kernel_rfl
  t5 := Tryz.underlying5
  a5 := Tryz.isAgg5
  z5 := Tryz.sizeOf5
  v5 := Tryz.zeroValue5
  infoByte := by kernel_rfl
  cellsByte := by kernel_rfl
  sizeByte := by kernel_rfl
  neB5 := by decide }
open Go.RowKit in
theorem Tryz.strings_Join_none (a : Option Addr) (c : Nat) (sep : ByteArray) (w : World) :
    Calls Tryz.prog 65 #[.slice a 0 c, .string sep] w fun e w' => e = .returned (.string ⟨#[]⟩) ∧ w' = w := Any.strings_Join_none Tryz.lays156 Tryz.Builder_Extra_156 a c sep w
open Go.RowKit in
theorem Tryz.strings_Join (bk o c : Nat) (xs : List ByteArray) (sep : ByteArray) (w : World) (hcells : ∀ (j : Nat) x, xs[j]? = some x → w.cell? ⟨bk, o + j, none⟩ = some (.string x)) (hbk : bk < w.heap.size) (hN : xs.length ≤ 140737488355328) (hcap : xs.length ≤ c) (hlen : (Lib.join (xs.map (·.data.toList)) sep.data.toList).length ≤ 140737488355328) :
    Calls Tryz.prog 65 #[.slice (some ⟨bk, o, none⟩) xs.length c, .string sep] w fun e w' => e = .returned (.string ⟨(Lib.join (xs.map (·.data.toList)) sep.data.toList).toArray⟩) ∧ Below w.heap.size w w' := Any.strings_Join Tryz.lays156 Tryz.Builder_Extra_156 bk o c xs sep w hcells hbk hN hcap hlen
def Tryz.lays210_ren : Go.Shelf.Ren := ⟨fun | 210 => 140 | 206 => 151 | n => n, fun | 9 => 9 | 4 => 4 | 3 => 3 | n => n, fun | n => n⟩
theorem Tryz.lays210 : Go.Proofs.Lays.n210 Tryz.prog Tryz.lays210_ren := {
  mixed := by kernel_rfl
  f206 := Tryz.func151.trans (congrArg some (by kernel_rfl))
  f210 := Tryz.func140.trans (congrArg some (by kernel_rfl))
  t3 := Tryz.underlying3
  a3 := Tryz.isAgg3
  z3 := Tryz.sizeOf3
  v3 := Tryz.zeroValue3
  t4 := Tryz.underlying4
  a4 := Tryz.isAgg4
  z4 := Tryz.sizeOf4
  v4 := Tryz.zeroValue4
  t9 := Tryz.underlying9
  a9 := Tryz.isAgg9
  z9 := Tryz.sizeOf9
  v9 := Tryz.zeroValue9 }
open Go.RowKit in
theorem Tryz.stringslite_CutPrefix (s p : ByteArray) (w : World) :
    Calls Tryz.prog 140 #[.string s, .string p] w fun e w' => e = .returned (.tuple #[.string ⟨(Lib.trimPrefix s.data.toList p.data.toList).toArray⟩, .bool (Lib.hasPrefix s.data.toList p.data.toList)]) ∧ w' = w := Any.stringslite_CutPrefix Tryz.lays210 s p w
def Tryz.lays103_ren : Go.Shelf.Ren := ⟨fun | 103 => 121 | 210 => 140 | 206 => 151 | n => n, fun | 9 => 9 | 4 => 4 | 24 => 158 | 3 => 3 | n => n, fun | n => n⟩
theorem Tryz.lays103 : Go.Proofs.Lays.n103 Tryz.prog Tryz.lays103_ren := {
  mixed := by kernel_rfl
  f103 := Tryz.func121.trans (congrArg some (by kernel_rfl))
  f206 := Tryz.func151.trans (congrArg some (by kernel_rfl))
  f210 := Tryz.func140.trans (congrArg some (by kernel_rfl))
  t3 := Tryz.underlying3
  a3 := Tryz.isAgg3
  z3 := Tryz.sizeOf3
  v3 := Tryz.zeroValue3
  t4 := Tryz.underlying4
  a4 := Tryz.isAgg4
  z4 := Tryz.sizeOf4
  v4 := Tryz.zeroValue4
  t9 := Tryz.underlying9
  a9 := Tryz.isAgg9
  z9 := Tryz.sizeOf9
  v9 := Tryz.zeroValue9
  t24 := Tryz.underlying158
  a24 := Tryz.isAgg158
  z24 := Tryz.sizeOf158
  v24 := Tryz.zeroValue158 }
open Go.RowKit in
theorem Tryz.strings_CutPrefix (s p : ByteArray) (w : World) :
    Calls Tryz.prog 121 #[.string s, .string p] w fun e w' => e = .returned (.tuple #[.string ⟨(Lib.trimPrefix s.data.toList p.data.toList).toArray⟩, .bool (Lib.hasPrefix s.data.toList p.data.toList)]) ∧ w' = w := Any.strings_CutPrefix Tryz.lays103 s p w
open Go.RowKit in
theorem Tryz.Builder_String_f (B b : Nat) (l : List UInt8) (w : World) (h : Lib.IsBuilderF 139 5 B b (Lib.byteCells l) w) (h0 : l ≠ []) :
    Calls Tryz.prog 103 #[.pointer (some ⟨b, 0, none⟩)] w fun e w' => e = .returned (.string ⟨l.toArray⟩) ∧ (Lib.IsBuilderF 139 5 B b (Lib.byteCells l) w' ∧ Below B w w') := Any.Builder_String_f Tryz.lays169 Tryz.Builder_Extra_169 B b l w h h0
open Go.RowKit in
theorem Tryz.Builder_String_empty_f (B b : Nat) (w : World) (h : Lib.IsBuilderF 139 5 B b [] w) (hBw : B ≤ w.heap.size) :
    Calls Tryz.prog 103 #[.pointer (some ⟨b, 0, none⟩)] w fun e w' => e = .returned (.string ⟨#[]⟩) ∧ (Lib.IsBuilderF 139 5 B b [] w' ∧ Below B w w') := Any.Builder_String_empty_f Tryz.lays169 Tryz.Builder_Extra_169 B b w h hBw
open Go.RowKit in
theorem Tryz.Builder_String_any_f (B b : Nat) (l : List UInt8) (w : World) (h : Lib.IsBuilderF 139 5 B b (Lib.byteCells l) w) (hBw : B ≤ w.heap.size) :
    Calls Tryz.prog 103 #[.pointer (some ⟨b, 0, none⟩)] w fun e w' => e = .returned (.string ⟨l.toArray⟩) ∧ (Lib.IsBuilderF 139 5 B b (Lib.byteCells l) w' ∧ Below B w w') := Any.Builder_String_any_f Tryz.lays169 Tryz.Builder_Extra_169 B b l w h hBw
open Go.RowKit in
theorem Tryz.Builder_String_k (B b : Nat) (l : List UInt8) (w : World) (h : Lib.IsBuilderF 139 5 B b (Lib.byteCells l) w) (h0 : l ≠ []) :
    Calls Tryz.prog 103 #[.pointer (some ⟨b, 0, none⟩)] w fun e w' => e = .returned (.string ⟨l.toArray⟩) ∧ (Lib.IsBuilderF 139 5 B b (Lib.byteCells l) w' ∧ Below B w w' ∧ Lib.OthersKept 5 (some b) w w') := Any.Builder_String_k Tryz.lays169 Tryz.Builder_Extra_169 B b l w h h0
open Go.RowKit in
theorem Tryz.Builder_String_empty_k (B b : Nat) (w : World) (h : Lib.IsBuilderF 139 5 B b [] w) (hBw : B ≤ w.heap.size) :
    Calls Tryz.prog 103 #[.pointer (some ⟨b, 0, none⟩)] w fun e w' => e = .returned (.string ⟨#[]⟩) ∧ (Lib.IsBuilderF 139 5 B b [] w' ∧ Below B w w' ∧ Lib.OthersKept 5 (some b) w w') := Any.Builder_String_empty_k Tryz.lays169 Tryz.Builder_Extra_169 B b w h hBw
open Go.RowKit in
theorem Tryz.Builder_String_any_k (B b : Nat) (l : List UInt8) (w : World) (h : Lib.IsBuilderF 139 5 B b (Lib.byteCells l) w) (hBw : B ≤ w.heap.size) :
    Calls Tryz.prog 103 #[.pointer (some ⟨b, 0, none⟩)] w fun e w' => e = .returned (.string ⟨l.toArray⟩) ∧ (Lib.IsBuilderF 139 5 B b (Lib.byteCells l) w' ∧ Below B w w' ∧ Lib.OthersKept 5 (some b) w w') := Any.Builder_String_any_k Tryz.lays169 Tryz.Builder_Extra_169 B b l w h hBw
def Tryz.lays195_ren : Go.Shelf.Ren := ⟨fun | 195 => 133 | n => n, fun | 9 => 9 | 3 => 3 | 0 => 0 | 4 => 4 | n => n, fun | n => n⟩
theorem Tryz.lays195 : Go.Proofs.Lays.n195 Tryz.prog Tryz.lays195_ren := {
  mixed := by kernel_rfl
  f195 := Tryz.func133.trans (congrArg some (by kernel_rfl))
  t0 := Tryz.underlying0
  a0 := Tryz.isAgg0
  z0 := Tryz.sizeOf0
  v0 := Tryz.zeroValue0
  t3 := Tryz.underlying3
  a3 := Tryz.isAgg3
  z3 := Tryz.sizeOf3
  v3 := Tryz.zeroValue3
  t4 := Tryz.underlying4
  a4 := Tryz.isAgg4
  z4 := Tryz.sizeOf4
  v4 := Tryz.zeroValue4
  t9 := Tryz.underlying9
  a9 := Tryz.isAgg9
  z9 := Tryz.sizeOf9
  v9 := Tryz.zeroValue9 }
open Go.RowKit in
theorem Tryz.utf8_RuneCountInString (s : ByteArray) (w : World) (hs : s.size < 9223372036854775807) :
    Calls Tryz.prog 133 #[.string s] w fun e w' => e = .returned (.int .i64 (Lib.runeCount s)) ∧ ∃ pos, w' = w.iter s pos := Any.utf8_RuneCountInString Tryz.lays195 s w hs
open Go.RowKit in
theorem Tryz.Builder_grow_fresh_cap (B b n : Nat) (w : World) (hB : B ≤ b) (hbk : w.heap[b]? = some (.cells #[.pointer (some ⟨b, 0, none⟩), .slice none 0 0] 139 (0, 0))) (hBw : B ≤ w.heap.size) (hn : n ≤ 281474976710656) :
    Calls Tryz.prog 128 #[.pointer (some ⟨b, 0, none⟩), .int .i64 n] w fun e w' => e = .returned (.tuple #[]) ∧ (Lib.BuilderAt 139 5 B b (.pointer (some ⟨b, 0, none⟩)) [] w' ∧ Below B w w') ∧ ∃ p cap, w'.cell? ⟨b, 1, none⟩ = some (.slice p 0 cap) ∧ n ≤ cap := Any.Builder_grow_fresh_cap Tryz.lays241 Tryz.Builder_Extra_241 B b n w hB hbk hBw hn
open Go.RowKit in
theorem Tryz.Builder_Grow_fresh_cap (B b n : Nat) (w : World) (hB : B ≤ b) (hbk : w.heap[b]? = some (.cells #[.pointer none, .slice none 0 0] 139 (0, 0))) (hBw : B ≤ w.heap.size) (hn : n ≤ 281474976710656) :
    Calls Tryz.prog 101 #[.pointer (some ⟨b, 0, none⟩), .int .i64 n] w fun e w' => e = .returned (.tuple #[]) ∧ (Lib.BuilderAt 139 5 B b (.pointer (some ⟨b, 0, none⟩)) [] w' ∧ Below B w w') ∧ ∃ p cap, w'.cell? ⟨b, 1, none⟩ = some (.slice p 0 cap) ∧ n ≤ cap := Any.Builder_Grow_fresh_cap Tryz.lays165 Tryz.Builder_Extra_165 B b n w hB hbk hBw hn
def Tryz.lays129_ren : Go.Shelf.Ren := ⟨fun | 129 => 153 | n => n, fun | 53 => 129 | 3 => 3 | 4 => 4 | 46 => 130 | 5 => 5 | 9 => 9 | n => n, fun | n => n⟩
theorem Tryz.lays129 : Go.Proofs.Lays.n129 Tryz.prog Tryz.lays129_ren := {
  mixed := by kernel_rfl
  f129 := Tryz.func153.trans (congrArg some (by kernel_rfl))
  t3 := Tryz.underlying3
  a3 := Tryz.isAgg3
  z3 := Tryz.sizeOf3
  v3 := Tryz.zeroValue3
  t4 := Tryz.underlying4
  a4 := Tryz.isAgg4
  z4 := Tryz.sizeOf4
  v4 := Tryz.zeroValue4
  t5 := Tryz.underlying5
  a5 := Tryz.isAgg5
  z5 := Tryz.sizeOf5
  v5 := Tryz.zeroValue5
  t9 := Tryz.underlying9
  a9 := Tryz.isAgg9
  z9 := Tryz.sizeOf9
  v9 := Tryz.zeroValue9
  t46 := Tryz.underlying130
  a46 := Tryz.isAgg130
  z46 := Tryz.sizeOf130
  v46 := Tryz.zeroValue130
  t53 := Tryz.underlying129
  a53 := Tryz.isAgg129
  z53 := Tryz.sizeOf129
  v53 := Tryz.zeroValue129 }
theorem Tryz.bits_Len64 (x : Int) (w : World) (h0 : 0 ≤ x) (h1 : x ≤ 18446744073709551615) :
    Calls Tryz.prog 153 #[.int .u64 x] w fun e w' => e = .returned (.int .i64 (Lib.bitLen x.toNat)) ∧ w' = w := Any.bits_Len64 Tryz.lays129 x w h0 h1
def Tryz.lays317_ren : Go.Shelf.Ren := ⟨fun | 317 => 152 | n => n, fun | 3 => 3 | 46 => 130 | n => n, fun | n => n⟩
theorem Tryz.lays317 : Go.Proofs.Lays.n317 Tryz.prog Tryz.lays317_ren := {
  mixed := by kernel_rfl
  f317 := Tryz.func152.trans (congrArg some (by kernel_rfl))
  t3 := Tryz.underlying3
  a3 := Tryz.isAgg3
  z3 := Tryz.sizeOf3
  v3 := Tryz.zeroValue3
  t46 := Tryz.underlying130
  a46 := Tryz.isAgg130
  z46 := Tryz.sizeOf130
  v46 := Tryz.zeroValue130 }
open Go.Lib in
theorem Tryz.internal_strconv_log10Pow2 (x : Nat) (h : x ≤ 64) (w : World) :
    Calls Tryz.prog 152 #[.int .i64 x] w fun e w' => e = .returned (.int .i64 (Lib.l10 x)) ∧ w' = w := Any.internal_strconv_log10Pow2 Tryz.lays317 x h w
def Tryz.lays318_ren : Go.Shelf.Ren := ⟨fun | 318 => 154 | n => n, fun | 3 => 3 | 4 => 4 | n => n, fun | n => n⟩
theorem Tryz.lays318 : Go.Proofs.Lays.n318 Tryz.prog Tryz.lays318_ren := {
  mixed := by kernel_rfl
  f318 := Tryz.func154.trans (congrArg some (by kernel_rfl))
  t3 := Tryz.underlying3
  a3 := Tryz.isAgg3
  z3 := Tryz.sizeOf3
  v3 := Tryz.zeroValue3
  t4 := Tryz.underlying4
  a4 := Tryz.isAgg4
  z4 := Tryz.sizeOf4
  v4 := Tryz.zeroValue4 }
open Go.Lib in
theorem Tryz.internal_strconv_bool2_int (b : Bool) (w : World) :
    Calls Tryz.prog 154 #[.bool b] w fun e w' => e = .returned (.int .i64 (if b then 1 else 0)) ∧ w' = w := Any.internal_strconv_bool2_int Tryz.lays318 b w
def Tryz.lays283_ren : Go.Shelf.Ren := ⟨fun | 283 => 141 | n => n, fun | 3 => 3 | 9 => 9 | 4 => 4 | n => n, fun | n => n⟩
theorem Tryz.lays283 : Go.Proofs.Lays.n283 Tryz.prog Tryz.lays283_ren := {
  mixed := by kernel_rfl
  f283 := Tryz.func141.trans (congrArg some (by kernel_rfl))
  t3 := Tryz.underlying3
  a3 := Tryz.isAgg3
  z3 := Tryz.sizeOf3
  v3 := Tryz.zeroValue3
  t4 := Tryz.underlying4
  a4 := Tryz.isAgg4
  z4 := Tryz.sizeOf4
  v4 := Tryz.zeroValue4
  t9 := Tryz.underlying9
  a9 := Tryz.isAgg9
  z9 := Tryz.sizeOf9
  v9 := Tryz.zeroValue9 }
open Go.Lib in
theorem Tryz.internal_strconv_small (i : Nat) (h : i < 100) (w : World) :
    Calls Tryz.prog 141 #[.int .i64 i] w fun e w' => e = .returned (.string ⟨(Lib.decDigits i).toArray⟩) ∧ w' = w := Any.internal_strconv_small Tryz.lays283 i h w
def Tryz.laysM284_ren : Go.Shelf.Ren := ⟨fun | 284 => 142 | 129 => 153 | 317 => 152 | 318 => 154 | n => n, fun | 53 => 129 | 3 => 3 | 212 => 185 | 0 => 0 | 4 => 4 | 46 => 130 | 5 => 5 | 9 => 9 | n => n, fun | 17 => 1 | n => n⟩
theorem Tryz.laysM284 : Go.Proofs.LaysM.n284 Tryz.prog Tryz.laysM284_ren := {
  mixed := by kernel_rfl
  f129 := Tryz.func153.trans (congrArg some (by kernel_rfl))
  f284 := Tryz.func142.trans (congrArg some (by kernel_rfl))
  f317 := Tryz.func152.trans (congrArg some (by kernel_rfl))
  f318 := Tryz.func154.trans (congrArg some (by kernel_rfl))
  t0 := Tryz.underlying0
  a0 := Tryz.isAgg0
  z0 := Tryz.sizeOf0
  v0 := Tryz.zeroValue0
  t3 := Tryz.underlying3
  a3 := Tryz.isAgg3
  z3 := Tryz.sizeOf3
  v3 := Tryz.zeroValue3
  t4 := Tryz.underlying4
  a4 := Tryz.isAgg4
  z4 := Tryz.sizeOf4
  v4 := Tryz.zeroValue4
  t5 := Tryz.underlying5
  a5 := Tryz.isAgg5
  z5 := Tryz.sizeOf5
  v5 := Tryz.zeroValue5
  t9 := Tryz.underlying9
  a9 := Tryz.isAgg9
  z9 := Tryz.sizeOf9
  v9 := Tryz.zeroValue9
  t46 := Tryz.underlying130
  a46 := Tryz.isAgg130
  z46 := Tryz.sizeOf130
  v46 := Tryz.zeroValue130
  t53 := Tryz.underlying129
  a53 := Tryz.isAgg129
  z53 := Tryz.sizeOf129
  v53 := Tryz.zeroValue129
  t212 := Tryz.underlying185
  a212 := Tryz.isAgg185
  z212 := Tryz.sizeOf185
  v212 := Tryz.zeroValue185
  g17 := by kernel_rfl
  i0 := by kernel_rfl
  i3 := by kernel_rfl
  i4 := by kernel_rfl
  i5 := by kernel_rfl
  i9 := by kernel_rfl
  i46 := by kernel_rfl
  i53 := by kernel_rfl
  i212 := by kernel_rfl
  m17 := by kernel_rfl }
open Go.Lib in
theorem Tryz.internal_strconv_numDigits (u : Nat) (h1 : 1 ≤ u) (h2 : u < 18446744073709551616) (w : World) (htab : Lib.TabIs Tryz.prog w "internal/strconv.uint64pow10" .u64 Lib.pow10Tab) :
    Calls Tryz.prog 142 #[.int .u64 u] w fun e w' => e = .returned (.int .i64 (Lib.nDigits u)) ∧ w' = w := Any.internal_strconv_numDigits Tryz.laysM284 u h1 h2 w htab
def Tryz.lays285_ren : Go.Shelf.Ren := ⟨fun | 285 => 143 | n => n, fun | 37 => 40 | 53 => 129 | 3 => 3 | 4 => 4 | 51 => 181 | 9 => 9 | 5 => 5 | 0 => 0 | n => n, fun | n => n⟩
theorem Tryz.lays285 : Go.Proofs.Lays.n285 Tryz.prog Tryz.lays285_ren := {
  mixed := by kernel_rfl
  f285 := Tryz.func143.trans (congrArg some (by kernel_rfl))
  t0 := Tryz.underlying0
  a0 := Tryz.isAgg0
  z0 := Tryz.sizeOf0
  v0 := Tryz.zeroValue0
  t3 := Tryz.underlying3
  a3 := Tryz.isAgg3
  z3 := Tryz.sizeOf3
  v3 := Tryz.zeroValue3
  t4 := Tryz.underlying4
  a4 := Tryz.isAgg4
  z4 := Tryz.sizeOf4
  v4 := Tryz.zeroValue4
  t5 := Tryz.underlying5
  a5 := Tryz.isAgg5
  z5 := Tryz.sizeOf5
  v5 := Tryz.zeroValue5
  t9 := Tryz.underlying9
  a9 := Tryz.isAgg9
  z9 := Tryz.sizeOf9
  v9 := Tryz.zeroValue9
  t37 := Tryz.underlying40
  a37 := Tryz.isAgg40
  z37 := Tryz.sizeOf40
  v37 := Tryz.zeroValue40
  t51 := Tryz.underlying181
  a51 := Tryz.isAgg181
  z51 := Tryz.sizeOf181
  v51 := Tryz.zeroValue181
  t53 := Tryz.underlying129
  a53 := Tryz.isAgg129
  z53 := Tryz.sizeOf129
  v53 := Tryz.zeroValue129 }
open Go.RowKit Go.Sort Go.Lib in
theorem Tryz.internal_strconv_formatBase10 (blk off cap : Nat) (u : Nat) (d : Array UInt8) (w : World) (hH : Holds (fun (b : UInt8) => Value.int .u8 (b.toNat : Int)) w blk off d) (hu : u < 10 ^ d.size) (hu64 : u < 18446744073709551616) (hsz : d.size < 4611686018427387904) :
    Calls Tryz.prog 143 #[.slice (some ⟨blk, off, none⟩) d.size cap, .int .u64 u] w fun e w' =>
      e = .returned (.tuple #[]) ∧ ∃ (n v' : Nat) (dk : Array UInt8), w' = (putRow (fun (b : UInt8) => Value.int .u8 (b.toNat : Int)) w blk off dk).drewN n ∧ FmtInv d.size u 0 v' dk := Any.internal_strconv_formatBase10 Tryz.lays285 blk off cap u d w hH hu hu64 hsz
def Tryz.laysM246_ren : Go.Shelf.Ren := ⟨fun | 246 => 125 | 283 => 141 | 284 => 142 | 285 => 143 | 286 => 144 | 129 => 153 | 317 => 152 | 318 => 154 | 319 => 155 | 320 => 156 | 337 => 157 | 338 => 158 | n => n, fun | 2 => 2 | 3 => 3 | 9 => 9 | 4 => 4 | 171 => 173 | 0 => 0 | 53 => 129 | 37 => 40 | 5 => 5 | 173 => 176 | 212 => 185 | 51 => 181 | 20 => 20 | 213 => 186 | 46 => 130 | 232 => 193 | 233 => 194 | n => n, fun | 17 => 1 | 18 => 4 | 19 => 5 | n => n⟩
theorem Tryz.laysM246 : Go.Proofs.LaysM.n246 Tryz.prog Tryz.laysM246_ren := {
  mixed := by kernel_rfl
  f129 := Tryz.func153.trans (congrArg some (by kernel_rfl))
  f246 := Tryz.func125.trans (congrArg some (by kernel_rfl))
  f283 := Tryz.func141.trans (congrArg some (by kernel_rfl))
  f284 := Tryz.func142.trans (congrArg some (by kernel_rfl))
  f285 := Tryz.func143.trans (congrArg some (by kernel_rfl))
  f286 := Tryz.func144.trans (congrArg some (by kernel_rfl))
  f317 := Tryz.func152.trans (congrArg some (by kernel_rfl))
  f318 := Tryz.func154.trans (congrArg some (by kernel_rfl))
  f319 := Tryz.func155.trans (congrArg some (by kernel_rfl))
  f320 := Tryz.func156.trans (congrArg some (by kernel_rfl))
  f337 := Tryz.func157.trans (congrArg some (by kernel_rfl))
  f338 := Tryz.func158.trans (congrArg some (by kernel_rfl))
  t0 := Tryz.underlying0
  a0 := Tryz.isAgg0
  z0 := Tryz.sizeOf0
  v0 := Tryz.zeroValue0
  t2 := Tryz.underlying2
  a2 := Tryz.isAgg2
  z2 := Tryz.sizeOf2
  v2 := Tryz.zeroValue2
  t3 := Tryz.underlying3
  a3 := Tryz.isAgg3
  z3 := Tryz.sizeOf3
  v3 := Tryz.zeroValue3
  t4 := Tryz.underlying4
  a4 := Tryz.isAgg4
  z4 := Tryz.sizeOf4
  v4 := Tryz.zeroValue4
  t5 := Tryz.underlying5
  a5 := Tryz.isAgg5
  z5 := Tryz.sizeOf5
  v5 := Tryz.zeroValue5
  t9 := Tryz.underlying9
  a9 := Tryz.isAgg9
  z9 := Tryz.sizeOf9
  v9 := Tryz.zeroValue9
  t20 := Tryz.underlying20
  a20 := Tryz.isAgg20
  z20 := Tryz.sizeOf20
  v20 := Tryz.zeroValue20
  t37 := Tryz.underlying40
  a37 := Tryz.isAgg40
  z37 := Tryz.sizeOf40
  v37 := Tryz.zeroValue40
  t46 := Tryz.underlying130
  a46 := Tryz.isAgg130
  z46 := Tryz.sizeOf130
  v46 := Tryz.zeroValue130
  t51 := Tryz.underlying181
  a51 := Tryz.isAgg181
  z51 := Tryz.sizeOf181
  v51 := Tryz.zeroValue181
  t53 := Tryz.underlying129
  a53 := Tryz.isAgg129
  z53 := Tryz.sizeOf129
  v53 := Tryz.zeroValue129
  t171 := Tryz.underlying173
  a171 := Tryz.isAgg173
  z171 := Tryz.sizeOf173
  v171 := Tryz.zeroValue173
  t173 := Tryz.underlying176
  a173 := Tryz.isAgg176
  z173 := Tryz.sizeOf176
  v173 := Tryz.zeroValue176
  t212 := Tryz.underlying185
  a212 := Tryz.isAgg185
  z212 := Tryz.sizeOf185
  v212 := Tryz.zeroValue185
  t213 := Tryz.underlying186
  a213 := Tryz.isAgg186
  z213 := Tryz.sizeOf186
  t232 := Tryz.underlying193
  a232 := Tryz.isAgg193
  z232 := Tryz.sizeOf193
  v232 := Tryz.zeroValue193
  t233 := Tryz.underlying194
  a233 := Tryz.isAgg194
  z233 := Tryz.sizeOf194
  v233 := Tryz.zeroValue194
  g17 := by kernel_rfl
  g18 := by kernel_rfl
  g19 := by kernel_rfl
  i0 := by kernel_rfl
  i2 := by kernel_rfl
  i3 := by kernel_rfl
  i4 := by kernel_rfl
  i5 := by kernel_rfl
  i9 := by kernel_rfl
  i20 := by kernel_rfl
  i37 := by kernel_rfl
  i46 := by kernel_rfl
  i51 := by kernel_rfl
  i53 := by kernel_rfl
  i171 := by kernel_rfl
  i173 := by kernel_rfl
  i212 := by kernel_rfl
  i232 := by kernel_rfl
  i233 := by kernel_rfl
  m17 := by kernel_rfl
  m18 := by kernel_rfl
  m19 := by kernel_rfl }
open Go.RowKit Go.Sort Go.Lib in
theorem Tryz.internal_strconv_FormatInt_10 (n : Int) (h0 : -9223372036854775808 ≤ n) (h1 : n ≤ 9223372036854775807) (w : World) (htab : Lib.TabIs Tryz.prog w "internal/strconv.uint64pow10" .u64 Lib.pow10Tab) :
    Calls Tryz.prog 125 #[.int .i64 n, .int .i64 10] w fun e w' => e = .returned (.string ⟨(Lib.itoa n).toArray⟩) ∧ ∃ k os, w' = grow (w.drewN k) os := Any.internal_strconv_FormatInt_10 Tryz.laysM246 n h0 h1 w htab
def Tryz.lays246_ren : Go.Shelf.Ren := ⟨fun | 246 => 125 | 283 => 141 | 284 => 142 | 285 => 143 | 286 => 144 | 129 => 153 | 317 => 152 | 318 => 154 | 319 => 155 | 320 => 156 | 337 => 157 | 338 => 158 | n => n, fun | 2 => 2 | 3 => 3 | 9 => 9 | 4 => 4 | 171 => 173 | 0 => 0 | 53 => 129 | 37 => 40 | 5 => 5 | 173 => 176 | 212 => 185 | 51 => 181 | 20 => 20 | 213 => 186 | 46 => 130 | 232 => 193 | 233 => 194 | n => n, fun | 17 => 1 | 18 => 4 | 19 => 5 | n => n⟩
theorem Tryz.lays246 : Go.Proofs.Lays.n246 Tryz.prog Tryz.lays246_ren := {
  mixed := by kernel_rfl
  f129 := Tryz.func153.trans (congrArg some (by kernel_rfl))
  f246 := Tryz.func125.trans (congrArg some (by kernel_rfl))
  f283 := Tryz.func141.trans (congrArg some (by kernel_rfl))
  f284 := Tryz.func142.trans (congrArg some (by kernel_rfl))
  f285 := Tryz.func143.trans (congrArg some (by kernel_rfl))
  f286 := Tryz.func144.trans (congrArg some (by kernel_rfl))
  f317 := Tryz.func152.trans (congrArg some (by kernel_rfl))
  f318 := Tryz.func154.trans (congrArg some (by kernel_rfl))
  f319 := Tryz.func155.trans (congrArg some (by kernel_rfl))
  f320 := Tryz.func156.trans (congrArg some (by kernel_rfl))
  f337 := Tryz.func157.trans (congrArg some (by kernel_rfl))
  f338 := Tryz.func158.trans (congrArg some (by kernel_rfl))
  t0 := Tryz.underlying0
  a0 := Tryz.isAgg0
  z0 := Tryz.sizeOf0
  v0 := Tryz.zeroValue0
  t2 := Tryz.underlying2
  a2 := Tryz.isAgg2
  z2 := Tryz.sizeOf2
  v2 := Tryz.zeroValue2
  t3 := Tryz.underlying3
  a3 := Tryz.isAgg3
  z3 := Tryz.sizeOf3
  v3 := Tryz.zeroValue3
  t4 := Tryz.underlying4
  a4 := Tryz.isAgg4
  z4 := Tryz.sizeOf4
  v4 := Tryz.zeroValue4
  t5 := Tryz.underlying5
  a5 := Tryz.isAgg5
  z5 := Tryz.sizeOf5
  v5 := Tryz.zeroValue5
  t9 := Tryz.underlying9
  a9 := Tryz.isAgg9
  z9 := Tryz.sizeOf9
  v9 := Tryz.zeroValue9
  t20 := Tryz.underlying20
  a20 := Tryz.isAgg20
  z20 := Tryz.sizeOf20
  v20 := Tryz.zeroValue20
  t37 := Tryz.underlying40
  a37 := Tryz.isAgg40
  z37 := Tryz.sizeOf40
  v37 := Tryz.zeroValue40
  t46 := Tryz.underlying130
  a46 := Tryz.isAgg130
  z46 := Tryz.sizeOf130
  v46 := Tryz.zeroValue130
  t51 := Tryz.underlying181
  a51 := Tryz.isAgg181
  z51 := Tryz.sizeOf181
  v51 := Tryz.zeroValue181
  t53 := Tryz.underlying129
  a53 := Tryz.isAgg129
  z53 := Tryz.sizeOf129
  v53 := Tryz.zeroValue129
  t171 := Tryz.underlying173
  a171 := Tryz.isAgg173
  z171 := Tryz.sizeOf173
  v171 := Tryz.zeroValue173
  t173 := Tryz.underlying176
  a173 := Tryz.isAgg176
  z173 := Tryz.sizeOf176
  v173 := Tryz.zeroValue176
  t212 := Tryz.underlying185
  a212 := Tryz.isAgg185
  z212 := Tryz.sizeOf185
  v212 := Tryz.zeroValue185
  t213 := Tryz.underlying186
  a213 := Tryz.isAgg186
  z213 := Tryz.sizeOf186
  t232 := Tryz.underlying193
  a232 := Tryz.isAgg193
  z232 := Tryz.sizeOf193
  v232 := Tryz.zeroValue193
  t233 := Tryz.underlying194
  a233 := Tryz.isAgg194
  z233 := Tryz.sizeOf194
  v233 := Tryz.zeroValue194
  g17 := by kernel_rfl
  g18 := by kernel_rfl
  g19 := by kernel_rfl }
open Go.RowKit Go.Sort Go.Lib in
theorem Tryz.internal_strconv_FormatInt_10_small (i : Nat) (hi : i < 100) (w : World) :
    Calls Tryz.prog 125 #[.int .i64 i, .int .i64 10] w fun e w' => e = .returned (.string ⟨(Lib.decDigits i).toArray⟩) ∧ w' = w := Any.internal_strconv_FormatInt_10_small Tryz.lays246 i hi w
def Tryz.laysM243_ren : Go.Shelf.Ren := ⟨fun | 243 => 99 | 246 => 125 | 283 => 141 | 284 => 142 | 285 => 143 | 286 => 144 | 129 => 153 | 317 => 152 | 318 => 154 | 319 => 155 | 320 => 156 | 337 => 157 | 338 => 158 | n => n, fun | 3 => 3 | 9 => 9 | 2 => 2 | 4 => 4 | 171 => 173 | 0 => 0 | 53 => 129 | 37 => 40 | 5 => 5 | 173 => 176 | 212 => 185 | 51 => 181 | 20 => 20 | 213 => 186 | 46 => 130 | 232 => 193 | 233 => 194 | n => n, fun | 17 => 1 | 18 => 4 | 19 => 5 | n => n⟩
theorem Tryz.laysM243 : Go.Proofs.LaysM.n243 Tryz.prog Tryz.laysM243_ren := {
  mixed := by kernel_rfl
  f129 := Tryz.func153.trans (congrArg some (by kernel_rfl))
  f243 := Tryz.func99.trans (congrArg some (by kernel_rfl))
  f246 := Tryz.func125.trans (congrArg some (by kernel_rfl))
  f283 := Tryz.func141.trans (congrArg some (by kernel_rfl))
  f284 := Tryz.func142.trans (congrArg some (by kernel_rfl))
  f285 := Tryz.func143.trans (congrArg some (by kernel_rfl))
  f286 := Tryz.func144.trans (congrArg some (by kernel_rfl))
  f317 := Tryz.func152.trans (congrArg some (by kernel_rfl))
  f318 := Tryz.func154.trans (congrArg some (by kernel_rfl))
  f319 := Tryz.func155.trans (congrArg some (by kernel_rfl))
  f320 := Tryz.func156.trans (congrArg some (by kernel_rfl))
  f337 := Tryz.func157.trans (congrArg some (by kernel_rfl))
  f338 := Tryz.func158.trans (congrArg some (by kernel_rfl))
  t0 := Tryz.underlying0
  a0 := Tryz.isAgg0
  z0 := Tryz.sizeOf0
  v0 := Tryz.zeroValue0
  t2 := Tryz.underlying2
  a2 := Tryz.isAgg2
  z2 := Tryz.sizeOf2
  v2 := Tryz.zeroValue2
  t3 := Tryz.underlying3
  a3 := Tryz.isAgg3
  z3 := Tryz.sizeOf3
  v3 := Tryz.zeroValue3
  t4 := Tryz.underlying4
  a4 := Tryz.isAgg4
  z4 := Tryz.sizeOf4
  v4 := Tryz.zeroValue4
  t5 := Tryz.underlying5
  a5 := Tryz.isAgg5
  z5 := Tryz.sizeOf5
  v5 := Tryz.zeroValue5
  t9 := Tryz.underlying9
  a9 := Tryz.isAgg9
  z9 := Tryz.sizeOf9
  v9 := Tryz.zeroValue9
  t20 := Tryz.underlying20
  a20 := Tryz.isAgg20
  z20 := Tryz.sizeOf20
  v20 := Tryz.zeroValue20
  t37 := Tryz.underlying40
  a37 := Tryz.isAgg40
  z37 := Tryz.sizeOf40
  v37 := Tryz.zeroValue40
  t46 := Tryz.underlying130
  a46 := Tryz.isAgg130
  z46 := Tryz.sizeOf130
  v46 := Tryz.zeroValue130
  t51 := Tryz.underlying181
  a51 := Tryz.isAgg181
  z51 := Tryz.sizeOf181
  v51 := Tryz.zeroValue181
  t53 := Tryz.underlying129
  a53 := Tryz.isAgg129
  z53 := Tryz.sizeOf129
  v53 := Tryz.zeroValue129
  t171 := Tryz.underlying173
  a171 := Tryz.isAgg173
  z171 := Tryz.sizeOf173
  v171 := Tryz.zeroValue173
  t173 := Tryz.underlying176
  a173 := Tryz.isAgg176
  z173 := Tryz.sizeOf176
  v173 := Tryz.zeroValue176
  t212 := Tryz.underlying185
  a212 := Tryz.isAgg185
  z212 := Tryz.sizeOf185
  v212 := Tryz.zeroValue185
  t213 := Tryz.underlying186
  a213 := Tryz.isAgg186
  z213 := Tryz.sizeOf186
  t232 := Tryz.underlying193
  a232 := Tryz.isAgg193
  z232 := Tryz.sizeOf193
  v232 := Tryz.zeroValue193
  t233 := Tryz.underlying194
  a233 := Tryz.isAgg194
  z233 := Tryz.sizeOf194
  v233 := Tryz.zeroValue194
  g17 := by kernel_rfl
  g18 := by kernel_rfl
  g19 := by kernel_rfl
  i0 := by kernel_rfl
  i2 := by kernel_rfl
  i3 := by kernel_rfl
  i4 := by kernel_rfl
  i5 := by kernel_rfl
  i9 := by kernel_rfl
  i20 := by kernel_rfl
  i37 := by kernel_rfl
  i46 := by kernel_rfl
  i51 := by kernel_rfl
  i53 := by kernel_rfl
  i171 := by kernel_rfl
  i173 := by kernel_rfl
  i212 := by kernel_rfl
  i232 := by kernel_rfl
  i233 := by kernel_rfl
  m17 := by kernel_rfl
  m18 := by kernel_rfl
  m19 := by kernel_rfl }
open Go.RowKit Go.Sort Go.Lib in
theorem Tryz.internal_strconv_Itoa (n : Int) (h0 : -9223372036854775808 ≤ n) (h1 : n ≤ 9223372036854775807) (w : World) (htab : Lib.TabIs Tryz.prog w "internal/strconv.uint64pow10" .u64 Lib.pow10Tab) :
    Calls Tryz.prog 99 #[.int .i64 n] w fun e w' => e = .returned (.string ⟨(Lib.itoa n).toArray⟩) ∧ ∃ k os, w' = grow (w.drewN k) os := Any.internal_strconv_Itoa Tryz.laysM243 n h0 h1 w htab
def Tryz.lays243_ren : Go.Shelf.Ren := ⟨fun | 243 => 99 | 246 => 125 | 283 => 141 | 284 => 142 | 285 => 143 | 286 => 144 | 129 => 153 | 317 => 152 | 318 => 154 | 319 => 155 | 320 => 156 | 337 => 157 | 338 => 158 | n => n, fun | 3 => 3 | 9 => 9 | 2 => 2 | 4 => 4 | 171 => 173 | 0 => 0 | 53 => 129 | 37 => 40 | 5 => 5 | 173 => 176 | 212 => 185 | 51 => 181 | 20 => 20 | 213 => 186 | 46 => 130 | 232 => 193 | 233 => 194 | n => n, fun | 17 => 1 | 18 => 4 | 19 => 5 | n => n⟩
theorem Tryz.lays243 : Go.Proofs.Lays.n243 Tryz.prog Tryz.lays243_ren := {
  mixed := by kernel_rfl
  f129 := Tryz.func153.trans (congrArg some (by kernel_rfl))
  f243 := Tryz.func99.trans (congrArg some (by kernel_rfl))
  f246 := Tryz.func125.trans (congrArg some (by kernel_rfl))
  f283 := Tryz.func141.trans (congrArg some (by kernel_rfl))
  f284 := Tryz.func142.trans (congrArg some (by kernel_rfl))
  f285 := Tryz.func143.trans (congrArg some (by kernel_rfl))
  f286 := Tryz.func144.trans (congrArg some (by kernel_rfl))
  f317 := Tryz.func152.trans (congrArg some (by kernel_rfl))
  f318 := Tryz.func154.trans (congrArg some (by kernel_rfl))
  f319 := Tryz.func155.trans (congrArg some (by kernel_rfl))
  f320 := Tryz.func156.trans (congrArg some (by kernel_rfl))
  f337 := Tryz.func157.trans (congrArg some (by kernel_rfl))
  f338 := Tryz.func158.trans (congrArg some (by kernel_rfl))
  t0 := Tryz.underlying0
  a0 := Tryz.isAgg0
  z0 := Tryz.sizeOf0
  v0 := Tryz.zeroValue0
  t2 := Tryz.underlying2
  a2 := Tryz.isAgg2
  z2 := Tryz.sizeOf2
  v2 := Tryz.zeroValue2
  t3 := Tryz.underlying3
  a3 := Tryz.isAgg3
  z3 := Tryz.sizeOf3
  v3 := Tryz.zeroValue3
  t4 := Tryz.underlying4
  a4 := Tryz.isAgg4
  z4 := Tryz.sizeOf4
  v4 := Tryz.zeroValue4
  t5 := Tryz.underlying5
  a5 := Tryz.isAgg5
  z5 := Tryz.sizeOf5
  v5 := Tryz.zeroValue5
  t9 := Tryz.underlying9
  a9 := Tryz.isAgg9
  z9 := Tryz.sizeOf9
  v9 := Tryz.zeroValue9
  t20 := Tryz.underlying20
  a20 := Tryz.isAgg20
  z20 := Tryz.sizeOf20
  v20 := Tryz.zeroValue20
  t37 := Tryz.underlying40
  a37 := Tryz.isAgg40
  z37 := Tryz.sizeOf40
  v37 := Tryz.zeroValue40
  t46 := Tryz.underlying130
  a46 := Tryz.isAgg130
  z46 := Tryz.sizeOf130
  v46 := Tryz.zeroValue130
  t51 := Tryz.underlying181
  a51 := Tryz.isAgg181
  z51 := Tryz.sizeOf181
  v51 := Tryz.zeroValue181
  t53 := Tryz.underlying129
  a53 := Tryz.isAgg129
  z53 := Tryz.sizeOf129
  v53 := Tryz.zeroValue129
  t171 := Tryz.underlying173
  a171 := Tryz.isAgg173
  z171 := Tryz.sizeOf173
  v171 := Tryz.zeroValue173
  t173 := Tryz.underlying176
  a173 := Tryz.isAgg176
  z173 := Tryz.sizeOf176
  v173 := Tryz.zeroValue176
  t212 := Tryz.underlying185
  a212 := Tryz.isAgg185
  z212 := Tryz.sizeOf185
  v212 := Tryz.zeroValue185
  t213 := Tryz.underlying186
  a213 := Tryz.isAgg186
  z213 := Tryz.sizeOf186
  t232 := Tryz.underlying193
  a232 := Tryz.isAgg193
  z232 := Tryz.sizeOf193
  v232 := Tryz.zeroValue193
  t233 := Tryz.underlying194
  a233 := Tryz.isAgg194
  z233 := Tryz.sizeOf194
  v233 := Tryz.zeroValue194
  g17 := by kernel_rfl
  g18 := by kernel_rfl
  g19 := by kernel_rfl }
open Go.RowKit Go.Sort Go.Lib in
theorem Tryz.internal_strconv_Itoa_small (i : Nat) (hi : i < 100) (w : World) :
    Calls Tryz.prog 99 #[.int .i64 i] w fun e w' => e = .returned (.string ⟨(Lib.decDigits i).toArray⟩) ∧ w' = w := Any.internal_strconv_Itoa_small Tryz.lays243 i hi w
def Tryz.laysM171_ren : Go.Shelf.Ren := ⟨fun | 171 => 62 | 243 => 99 | 246 => 125 | 283 => 141 | 284 => 142 | 285 => 143 | 286 => 144 | 129 => 153 | 317 => 152 | 318 => 154 | 319 => 155 | 320 => 156 | 337 => 157 | 338 => 158 | n => n, fun | 3 => 3 | 9 => 9 | 2 => 2 | 4 => 4 | 171 => 173 | 0 => 0 | 53 => 129 | 37 => 40 | 5 => 5 | 173 => 176 | 212 => 185 | 51 => 181 | 20 => 20 | 213 => 186 | 46 => 130 | 232 => 193 | 233 => 194 | n => n, fun | 17 => 1 | 18 => 4 | 19 => 5 | n => n⟩
theorem Tryz.laysM171 : Go.Proofs.LaysM.n171 Tryz.prog Tryz.laysM171_ren := {
  mixed := by kernel_rfl
  f129 := Tryz.func153.trans (congrArg some (by kernel_rfl))
  f171 := Tryz.func62.trans (congrArg some (by kernel_rfl))
  f243 := Tryz.func99.trans (congrArg some (by kernel_rfl))
  f246 := Tryz.func125.trans (congrArg some (by kernel_rfl))
  f283 := Tryz.func141.trans (congrArg some (by kernel_rfl))
  f284 := Tryz.func142.trans (congrArg some (by kernel_rfl))
  f285 := Tryz.func143.trans (congrArg some (by kernel_rfl))
  f286 := Tryz.func144.trans (congrArg some (by kernel_rfl))
  f317 := Tryz.func152.trans (congrArg some (by kernel_rfl))
  f318 := Tryz.func154.trans (congrArg some (by kernel_rfl))
  f319 := Tryz.func155.trans (congrArg some (by kernel_rfl))
  f320 := Tryz.func156.trans (congrArg some (by kernel_rfl))
  f337 := Tryz.func157.trans (congrArg some (by kernel_rfl))
  f338 := Tryz.func158.trans (congrArg some (by kernel_rfl))
  t0 := Tryz.underlying0
  a0 := Tryz.isAgg0
  z0 := Tryz.sizeOf0
  v0 := Tryz.zeroValue0
  t2 := Tryz.underlying2
  a2 := Tryz.isAgg2
  z2 := Tryz.sizeOf2
  v2 := Tryz.zeroValue2
  t3 := Tryz.underlying3
  a3 := Tryz.isAgg3
  z3 := Tryz.sizeOf3
  v3 := Tryz.zeroValue3
  t4 := Tryz.underlying4
  a4 := Tryz.isAgg4
  z4 := Tryz.sizeOf4
  v4 := Tryz.zeroValue4
  t5 := Tryz.underlying5
  a5 := Tryz.isAgg5
  z5 := Tryz.sizeOf5
  v5 := Tryz.zeroValue5
  t9 := Tryz.underlying9
  a9 := Tryz.isAgg9
  z9 := Tryz.sizeOf9
  v9 := Tryz.zeroValue9
  t20 := Tryz.underlying20
  a20 := Tryz.isAgg20
  z20 := Tryz.sizeOf20
  v20 := Tryz.zeroValue20
  t37 := Tryz.underlying40
  a37 := Tryz.isAgg40
  z37 := Tryz.sizeOf40
  v37 := Tryz.zeroValue40
  t46 := Tryz.underlying130
  a46 := Tryz.isAgg130
  z46 := Tryz.sizeOf130
  v46 := Tryz.zeroValue130
  t51 := Tryz.underlying181
  a51 := Tryz.isAgg181
  z51 := Tryz.sizeOf181
  v51 := Tryz.zeroValue181
  t53 := Tryz.underlying129
  a53 := Tryz.isAgg129
  z53 := Tryz.sizeOf129
  v53 := Tryz.zeroValue129
  t171 := Tryz.underlying173
  a171 := Tryz.isAgg173
  z171 := Tryz.sizeOf173
  v171 := Tryz.zeroValue173
  t173 := Tryz.underlying176
  a173 := Tryz.isAgg176
  z173 := Tryz.sizeOf176
  v173 := Tryz.zeroValue176
  t212 := Tryz.underlying185
  a212 := Tryz.isAgg185
  z212 := Tryz.sizeOf185
  v212 := Tryz.zeroValue185
  t213 := Tryz.underlying186
  a213 := Tryz.isAgg186
  z213 := Tryz.sizeOf186
  t232 := Tryz.underlying193
  a232 := Tryz.isAgg193
  z232 := Tryz.sizeOf193
  v232 := Tryz.zeroValue193
  t233 := Tryz.underlying194
  a233 := Tryz.isAgg194
  z233 := Tryz.sizeOf194
  v233 := Tryz.zeroValue194
  g17 := by kernel_rfl
  g18 := by kernel_rfl
  g19 := by kernel_rfl
  i0 := by kernel_rfl
  i2 := by kernel_rfl
  i3 := by kernel_rfl
  i4 := by kernel_rfl
  i5 := by kernel_rfl
  i9 := by kernel_rfl
  i20 := by kernel_rfl
  i37 := by kernel_rfl
  i46 := by kernel_rfl
  i51 := by kernel_rfl
  i53 := by kernel_rfl
  i171 := by kernel_rfl
  i173 := by kernel_rfl
  i212 := by kernel_rfl
  i232 := by kernel_rfl
  i233 := by kernel_rfl
  m17 := by kernel_rfl
  m18 := by kernel_rfl
  m19 := by kernel_rfl }
open Go.RowKit Go.Sort Go.Lib in
theorem Tryz.strconv_Itoa (n : Int) (h0 : -9223372036854775808 ≤ n) (h1 : n ≤ 9223372036854775807) (w : World) (htab : Lib.TabIs Tryz.prog w "internal/strconv.uint64pow10" .u64 Lib.pow10Tab) :
    Calls Tryz.prog 62 #[.int .i64 n] w fun e w' => e = .returned (.string ⟨(Lib.itoa n).toArray⟩) ∧ ∃ k os, w' = grow (w.drewN k) os := Any.strconv_Itoa Tryz.laysM171 n h0 h1 w htab
def Tryz.lays171_ren : Go.Shelf.Ren := ⟨fun | 171 => 62 | 243 => 99 | 246 => 125 | 283 => 141 | 284 => 142 | 285 => 143 | 286 => 144 | 129 => 153 | 317 => 152 | 318 => 154 | 319 => 155 | 320 => 156 | 337 => 157 | 338 => 158 | n => n, fun | 3 => 3 | 9 => 9 | 2 => 2 | 4 => 4 | 171 => 173 | 0 => 0 | 53 => 129 | 37 => 40 | 5 => 5 | 173 => 176 | 212 => 185 | 51 => 181 | 20 => 20 | 213 => 186 | 46 => 130 | 232 => 193 | 233 => 194 | n => n, fun | 17 => 1 | 18 => 4 | 19 => 5 | n => n⟩
theorem Tryz.lays171 : Go.Proofs.Lays.n171 Tryz.prog Tryz.lays171_ren := {
  mixed := by kernel_rfl
  f129 := Tryz.func153.trans (congrArg some (by kernel_rfl))
  f171 := Tryz.func62.trans (congrArg some (by kernel_rfl))
  f243 := Tryz.func99.trans (congrArg some (by kernel_rfl))
  f246 := Tryz.func125.trans (congrArg some (by kernel_rfl))
  f283 := Tryz.func141.trans (congrArg some (by kernel_rfl))
  f284 := Tryz.func142.trans (congrArg some (by kernel_rfl))
  f285 := Tryz.func143.trans (congrArg some (by kernel_rfl))
  f286 := Tryz.func144.trans (congrArg some (by kernel_rfl))
  f317 := Tryz.func152.trans (congrArg some (by kernel_rfl))
  f318 := Tryz.func154.trans (congrArg some (by kernel_rfl))
  f319 := Tryz.func155.trans (congrArg some (by kernel_rfl))
  f320 := Tryz.func156.trans (congrArg some (by kernel_rfl))
  f337 := Tryz.func157.trans (congrArg some (by kernel_rfl))
  f338 := Tryz.func158.trans (congrArg some (by kernel_rfl))
  t0 := Tryz.underlying0
  a0 := Tryz.isAgg0
  z0 := Tryz.sizeOf0
  v0 := Tryz.zeroValue0
  t2 := Tryz.underlying2
  a2 := Tryz.isAgg2
  z2 := Tryz.sizeOf2
  v2 := Tryz.zeroValue2
  t3 := Tryz.underlying3
  a3 := Tryz.isAgg3
  z3 := Tryz.sizeOf3
  v3 := Tryz.zeroValue3
  t4 := Tryz.underlying4
  a4 := Tryz.isAgg4
  z4 := Tryz.sizeOf4
  v4 := Tryz.zeroValue4
  t5 := Tryz.underlying5
  a5 := Tryz.isAgg5
  z5 := Tryz.sizeOf5
  v5 := Tryz.zeroValue5
  t9 := Tryz.underlying9
  a9 := Tryz.isAgg9
  z9 := Tryz.sizeOf9
  v9 := Tryz.zeroValue9
  t20 := Tryz.underlying20
  a20 := Tryz.isAgg20
  z20 := Tryz.sizeOf20
  v20 := Tryz.zeroValue20
  t37 := Tryz.underlying40
  a37 := Tryz.isAgg40
  z37 := Tryz.sizeOf40
  v37 := Tryz.zeroValue40
  t46 := Tryz.underlying130
  a46 := Tryz.isAgg130
  z46 := Tryz.sizeOf130
  v46 := Tryz.zeroValue130
  t51 := Tryz.underlying181
  a51 := Tryz.isAgg181
  z51 := Tryz.sizeOf181
  v51 := Tryz.zeroValue181
  t53 := Tryz.underlying129
  a53 := Tryz.isAgg129
  z53 := Tryz.sizeOf129
  v53 := Tryz.zeroValue129
  t171 := Tryz.underlying173
  a171 := Tryz.isAgg173
  z171 := Tryz.sizeOf173
  v171 := Tryz.zeroValue173
  t173 := Tryz.underlying176
  a173 := Tryz.isAgg176
  z173 := Tryz.sizeOf176
  v173 := Tryz.zeroValue176
  t212 := Tryz.underlying185
  a212 := Tryz.isAgg185
  z212 := Tryz.sizeOf185
  v212 := Tryz.zeroValue185
  t213 := Tryz.underlying186
  a213 := Tryz.isAgg186
  z213 := Tryz.sizeOf186
  t232 := Tryz.underlying193
  a232 := Tryz.isAgg193
  z232 := Tryz.sizeOf193
  v232 := Tryz.zeroValue193
  t233 := Tryz.underlying194
  a233 := Tryz.isAgg194
  z233 := Tryz.sizeOf194
  v233 := Tryz.zeroValue194
  g17 := by kernel_rfl
  g18 := by kernel_rfl
  g19 := by kernel_rfl }
open Go.RowKit Go.Sort Go.Lib in
theorem Tryz.strconv_Itoa_small (i : Nat) (hi : i < 100) (w : World) :
    Calls Tryz.prog 62 #[.int .i64 i] w fun e w' => e = .returned (.string ⟨(Lib.decDigits i).toArray⟩) ∧ w' = w := Any.strconv_Itoa_small Tryz.lays171 i hi w
def Tryz.lays217_ren : Go.Shelf.Ren := ⟨fun | 217 => 136 | 266 => 149 | n => n, fun | 9 => 9 | 5 => 5 | 3 => 3 | n => n, fun | n => n⟩
theorem Tryz.lays217 : Go.Proofs.Lays.n217 Tryz.prog Tryz.lays217_ren := {
  mixed := by kernel_rfl
  f217 := Tryz.func136.trans (congrArg some (by kernel_rfl))
  f266 := Tryz.func149.trans (congrArg some (by kernel_rfl))
  t3 := Tryz.underlying3
  a3 := Tryz.isAgg3
  z3 := Tryz.sizeOf3
  v3 := Tryz.zeroValue3
  t5 := Tryz.underlying5
  a5 := Tryz.isAgg5
  z5 := Tryz.sizeOf5
  v5 := Tryz.zeroValue5
  t9 := Tryz.underlying9
  a9 := Tryz.isAgg9
  z9 := Tryz.sizeOf9
  v9 := Tryz.zeroValue9 }
open Go.RowKit Go.Lib in
theorem Tryz.stringslite_IndexByte (s : ByteArray) (c : Int) (w : World) :
    Calls Tryz.prog 136 #[.string s, .int .u8 c] w fun e w' => e = .returned (.int .i64 (Lib.indexByte s.data.toList c.toNat.toUInt8)) ∧ w' = w := Any.stringslite_IndexByte Tryz.lays217 s c w
def Tryz.lays224_ren : Go.Shelf.Ren := ⟨fun | 224 => 138 | n => n, fun | 3 => 3 | n => n, fun | n => n⟩
theorem Tryz.lays224 : Go.Proofs.Lays.n224 Tryz.prog Tryz.lays224_ren := {
  mixed := by kernel_rfl
  f224 := Tryz.func138.trans (congrArg some (by kernel_rfl))
  t3 := Tryz.underlying3
  a3 := Tryz.isAgg3
  z3 := Tryz.sizeOf3
  v3 := Tryz.zeroValue3 }
open Go.RowKit Go.Lib in
theorem Tryz.bytealg_Cutover (n : Int) (h0 : 0 ≤ n) (h1 : n < 4611686018427387904) (w : World) :
    Calls Tryz.prog 138 #[.int .i64 n] w fun e w' => e = .returned (.int .i64 ((n + 16) / 8)) ∧ w' = w := Any.bytealg_Cutover Tryz.lays224 n h0 h1 w
def Tryz.lays314_ren : Go.Shelf.Ren := ⟨fun | 314 => 150 | n => n, fun | 9 => 9 | 51 => 181 | 3 => 3 | 4 => 4 | 5 => 5 | 46 => 130 | n => n, fun | n => n⟩
theorem Tryz.lays314 : Go.Proofs.Lays.n314 Tryz.prog Tryz.lays314_ren := {
  mixed := by kernel_rfl
  f314 := Tryz.func150.trans (congrArg some (by kernel_rfl))
  t3 := Tryz.underlying3
  a3 := Tryz.isAgg3
  z3 := Tryz.sizeOf3
  v3 := Tryz.zeroValue3
  t4 := Tryz.underlying4
  a4 := Tryz.isAgg4
  z4 := Tryz.sizeOf4
  v4 := Tryz.zeroValue4
  t5 := Tryz.underlying5
  a5 := Tryz.isAgg5
  z5 := Tryz.sizeOf5
  v5 := Tryz.zeroValue5
  t9 := Tryz.underlying9
  a9 := Tryz.isAgg9
  z9 := Tryz.sizeOf9
  v9 := Tryz.zeroValue9
  t46 := Tryz.underlying130
  a46 := Tryz.isAgg130
  z46 := Tryz.sizeOf130
  v46 := Tryz.zeroValue130
  t51 := Tryz.underlying181
  a51 := Tryz.isAgg181
  z51 := Tryz.sizeOf181
  v51 := Tryz.zeroValue181 }
open Go.RowKit Go.Lib in
theorem Tryz.bytealg_hashStr (sep : ByteArray) (hs : sep.size < 4294967281) (w : World) :
    Calls Tryz.prog 150 #[.string sep] w fun e w' => e = .returned (.tuple #[.int .u32 (RK.H sep.data.toList % 4294967296), .int .u32 (16777619 ^ sep.size % 4294967296)]) ∧ w' = w := Any.bytealg_hashStr Tryz.lays314 sep hs w
def Tryz.lays267_ren : Go.Shelf.Ren := ⟨fun | 267 => 139 | 314 => 150 | n => n, fun | 9 => 9 | 3 => 3 | 146 => 182 | 51 => 181 | 4 => 4 | 5 => 5 | 46 => 130 | n => n, fun | n => n⟩
theorem Tryz.lays267 : Go.Proofs.Lays.n267 Tryz.prog Tryz.lays267_ren := {
  mixed := by kernel_rfl
  f267 := Tryz.func139.trans (congrArg some (by kernel_rfl))
  f314 := Tryz.func150.trans (congrArg some (by kernel_rfl))
  t3 := Tryz.underlying3
  a3 := Tryz.isAgg3
  z3 := Tryz.sizeOf3
  v3 := Tryz.zeroValue3
  t4 := Tryz.underlying4
  a4 := Tryz.isAgg4
  z4 := Tryz.sizeOf4
  v4 := Tryz.zeroValue4
  t5 := Tryz.underlying5
  a5 := Tryz.isAgg5
  z5 := Tryz.sizeOf5
  v5 := Tryz.zeroValue5
  t9 := Tryz.underlying9
  a9 := Tryz.isAgg9
  z9 := Tryz.sizeOf9
  v9 := Tryz.zeroValue9
  t46 := Tryz.underlying130
  a46 := Tryz.isAgg130
  z46 := Tryz.sizeOf130
  v46 := Tryz.zeroValue130
  t51 := Tryz.underlying181
  a51 := Tryz.isAgg181
  z51 := Tryz.sizeOf181
  v51 := Tryz.zeroValue181
  t146 := Tryz.underlying182
  a146 := Tryz.isAgg182
  z146 := Tryz.sizeOf182
  v146 := Tryz.zeroValue182 }
open Go.RowKit Go.Lib in
theorem Tryz.bytealg_IndexRabinKarp (s sep : ByteArray) (h1 : 1 ≤ sep.size) (h2 : sep.size ≤ s.size) (hs : s.size < 4294967281) (w : World) :
    Calls Tryz.prog 139 #[.string s, .string sep] w fun e w' => e = .returned (.int .i64 (Lib.index s.data.toList sep.data.toList)) ∧ w' = w := Any.bytealg_IndexRabinKarp Tryz.lays267 s sep h1 h2 hs w
def Tryz.lays219_ren : Go.Shelf.Ren := ⟨fun | 219 => 120 | 217 => 136 | 225 => 137 | 224 => 138 | 267 => 139 | 266 => 149 | 314 => 150 | n => n, fun | 9 => 9 | 3 => 3 | 4 => 4 | 5 => 5 | 46 => 130 | 146 => 182 | 51 => 181 | n => n, fun | 1 => 0 | n => n⟩
theorem Tryz.lays219 : Go.Proofs.Lays.n219 Tryz.prog Tryz.lays219_ren := {
  mixed := by kernel_rfl
  f217 := Tryz.func136.trans (congrArg some (by kernel_rfl))
  f219 := Tryz.func120.trans (congrArg some (by kernel_rfl))
  f224 := Tryz.func138.trans (congrArg some (by kernel_rfl))
  f225 := Tryz.func137.trans (congrArg some (by kernel_rfl))
  f266 := Tryz.func149.trans (congrArg some (by kernel_rfl))
  f267 := Tryz.func139.trans (congrArg some (by kernel_rfl))
  f314 := Tryz.func150.trans (congrArg some (by kernel_rfl))
  t3 := Tryz.underlying3
  a3 := Tryz.isAgg3
  z3 := Tryz.sizeOf3
  v3 := Tryz.zeroValue3
  t4 := Tryz.underlying4
  a4 := Tryz.isAgg4
  z4 := Tryz.sizeOf4
  v4 := Tryz.zeroValue4
  t5 := Tryz.underlying5
  a5 := Tryz.isAgg5
  z5 := Tryz.sizeOf5
  v5 := Tryz.zeroValue5
  t9 := Tryz.underlying9
  a9 := Tryz.isAgg9
  z9 := Tryz.sizeOf9
  v9 := Tryz.zeroValue9
  t46 := Tryz.underlying130
  a46 := Tryz.isAgg130
  z46 := Tryz.sizeOf130
  v46 := Tryz.zeroValue130
  t51 := Tryz.underlying181
  a51 := Tryz.isAgg181
  z51 := Tryz.sizeOf181
  v51 := Tryz.zeroValue181
  t146 := Tryz.underlying182
  a146 := Tryz.isAgg182
  z146 := Tryz.sizeOf182
  v146 := Tryz.zeroValue182
  g1 := by kernel_rfl }
open Go.RowKit Go.Lib in
theorem Tryz.stringslite_Index_one (s : ByteArray) (c : UInt8) (w : World) :
    Calls Tryz.prog 120 #[.string s, .string ⟨#[c]⟩] w fun e w' => e = .returned (.int .i64 (Lib.indexByte s.data.toList c)) ∧ w' = w := Any.stringslite_Index_one Tryz.lays219 s c w
open Go.RowKit Go.Lib in
theorem Tryz.stringslite_Index (s sub : ByteArray) (m : Int) (w : World) (hs : s.size < 4294967281) (hm : w.cell? ⟨0, 0, none⟩ = some (.int .i64 m)) :
    Calls Tryz.prog 120 #[.string s, .string sub] w fun e w' => e = .returned (.int .i64 (Lib.index s.data.toList sub.data.toList)) ∧ w' = w := Any.stringslite_Index Tryz.lays219 s sub m w hs hm
def Tryz.lays143_ren : Go.Shelf.Ren := ⟨fun | 143 => 119 | 219 => 120 | 217 => 136 | 225 => 137 | 224 => 138 | 267 => 139 | 266 => 149 | 314 => 150 | n => n, fun | 9 => 9 | 3 => 3 | 4 => 4 | 5 => 5 | 46 => 130 | 146 => 182 | 51 => 181 | n => n, fun | 1 => 0 | n => n⟩
theorem Tryz.lays143 : Go.Proofs.Lays.n143 Tryz.prog Tryz.lays143_ren := {
  mixed := by kernel_rfl
  f143 := Tryz.func119.trans (congrArg some (by kernel_rfl))
  f217 := Tryz.func136.trans (congrArg some (by kernel_rfl))
  f219 := Tryz.func120.trans (congrArg some (by kernel_rfl))
  f224 := Tryz.func138.trans (congrArg some (by kernel_rfl))
  f225 := Tryz.func137.trans (congrArg some (by kernel_rfl))
  f266 := Tryz.func149.trans (congrArg some (by kernel_rfl))
  f267 := Tryz.func139.trans (congrArg some (by kernel_rfl))
  f314 := Tryz.func150.trans (congrArg some (by kernel_rfl))
  t3 := Tryz.underlying3
  a3 := Tryz.isAgg3
  z3 := Tryz.sizeOf3
  v3 := Tryz.zeroValue3
  t4 := Tryz.underlying4
  a4 := Tryz.isAgg4
  z4 := Tryz.sizeOf4
  v4 := Tryz.zeroValue4
  t5 := Tryz.underlying5
  a5 := Tryz.isAgg5
  z5 := Tryz.sizeOf5
  v5 := Tryz.zeroValue5
  t9 := Tryz.underlying9
  a9 := Tryz.isAgg9
  z9 := Tryz.sizeOf9
  v9 := Tryz.zeroValue9
  t46 := Tryz.underlying130
  a46 := Tryz.isAgg130
  z46 := Tryz.sizeOf130
  v46 := Tryz.zeroValue130
  t51 := Tryz.underlying181
  a51 := Tryz.isAgg181
  z51 := Tryz.sizeOf181
  v51 := Tryz.zeroValue181
  t146 := Tryz.underlying182
  a146 := Tryz.isAgg182
  z146 := Tryz.sizeOf182
  v146 := Tryz.zeroValue182
  g1 := by kernel_rfl }
open Go.RowKit Go.Lib in
theorem Tryz.strings_Index_one (s : ByteArray) (c : UInt8) (w : World) :
    Calls Tryz.prog 119 #[.string s, .string ⟨#[c]⟩] w fun e w' => e = .returned (.int .i64 (Lib.indexByte s.data.toList c)) ∧ w' = w := Any.strings_Index_one Tryz.lays143 s c w
open Go.RowKit Go.Lib in
theorem Tryz.strings_Index (s sub : ByteArray) (m : Int) (w : World) (hs : s.size < 4294967281) (hm : w.cell? ⟨0, 0, none⟩ = some (.int .i64 m)) :
    Calls Tryz.prog 119 #[.string s, .string sub] w fun e w' => e = .returned (.int .i64 (Lib.index s.data.toList sub.data.toList)) ∧ w' = w := Any.strings_Index Tryz.lays143 s sub m w hs hm
def Tryz.lays220_ren : Go.Shelf.Ren := ⟨fun | 220 => 96 | 219 => 120 | 217 => 136 | 225 => 137 | 224 => 138 | 267 => 139 | 266 => 149 | 314 => 150 | n => n, fun | 9 => 9 | 4 => 4 | 3 => 3 | 5 => 5 | 46 => 130 | 146 => 182 | 51 => 181 | n => n, fun | 1 => 0 | n => n⟩
theorem Tryz.lays220 : Go.Proofs.Lays.n220 Tryz.prog Tryz.lays220_ren := {
  mixed := by kernel_rfl
  f217 := Tryz.func136.trans (congrArg some (by kernel_rfl))
  f219 := Tryz.func120.trans (congrArg some (by kernel_rfl))
  f220 := Tryz.func96.trans (congrArg some (by kernel_rfl))
  f224 := Tryz.func138.trans (congrArg some (by kernel_rfl))
  f225 := Tryz.func137.trans (congrArg some (by kernel_rfl))
  f266 := Tryz.func149.trans (congrArg some (by kernel_rfl))
  f267 := Tryz.func139.trans (congrArg some (by kernel_rfl))
  f314 := Tryz.func150.trans (congrArg some (by kernel_rfl))
  t3 := Tryz.underlying3
  a3 := Tryz.isAgg3
  z3 := Tryz.sizeOf3
  v3 := Tryz.zeroValue3
  t4 := Tryz.underlying4
  a4 := Tryz.isAgg4
  z4 := Tryz.sizeOf4
  v4 := Tryz.zeroValue4
  t5 := Tryz.underlying5
  a5 := Tryz.isAgg5
  z5 := Tryz.sizeOf5
  v5 := Tryz.zeroValue5
  t9 := Tryz.underlying9
  a9 := Tryz.isAgg9
  z9 := Tryz.sizeOf9
  v9 := Tryz.zeroValue9
  t46 := Tryz.underlying130
  a46 := Tryz.isAgg130
  z46 := Tryz.sizeOf130
  v46 := Tryz.zeroValue130
  t51 := Tryz.underlying181
  a51 := Tryz.isAgg181
  z51 := Tryz.sizeOf181
  v51 := Tryz.zeroValue181
  t146 := Tryz.underlying182
  a146 := Tryz.isAgg182
  z146 := Tryz.sizeOf182
  v146 := Tryz.zeroValue182
  g1 := by kernel_rfl }
open Go.RowKit Go.Lib in
theorem Tryz.stringslite_Cut (s sep : ByteArray) (m : Int) (w : World) (hs : s.size < 4294967281) (hm : w.cell? ⟨0, 0, none⟩ = some (.int .i64 m)) :
    Calls Tryz.prog 96 #[.string s, .string sep] w fun e w' => e = .returned (.tuple #[.string ⟨(Lib.cut s.data.toList sep.data.toList).1.toArray⟩, .string ⟨(Lib.cut s.data.toList sep.data.toList).2.1.toArray⟩, .bool (Lib.cut s.data.toList sep.data.toList).2.2]) ∧ ∃ n, w' = w.drewN n := Any.stringslite_Cut Tryz.lays220 s sep m w hs hm
def Tryz.lays145_ren : Go.Shelf.Ren := ⟨fun | 145 => 59 | 220 => 96 | 219 => 120 | 217 => 136 | 225 => 137 | 224 => 138 | 267 => 139 | 266 => 149 | 314 => 150 | n => n, fun | 9 => 9 | 4 => 4 | 59 => 109 | 3 => 3 | 5 => 5 | 46 => 130 | 146 => 182 | 51 => 181 | n => n, fun | 1 => 0 | n => n⟩
theorem Tryz.lays145 : Go.Proofs.Lays.n145 Tryz.prog Tryz.lays145_ren := {
  mixed := by kernel_rfl
  f145 := Tryz.func59.trans (congrArg some (by kernel_rfl))
  f217 := Tryz.func136.trans (congrArg some (by kernel_rfl))
  f219 := Tryz.func120.trans (congrArg some (by kernel_rfl))
  f220 := Tryz.func96.trans (congrArg some (by kernel_rfl))
  f224 := Tryz.func138.trans (congrArg some (by kernel_rfl))
  f225 := Tryz.func137.trans (congrArg some (by kernel_rfl))
  f266 := Tryz.func149.trans (congrArg some (by kernel_rfl))
  f267 := Tryz.func139.trans (congrArg some (by kernel_rfl))
  f314 := Tryz.func150.trans (congrArg some (by kernel_rfl))
  t3 := Tryz.underlying3
  a3 := Tryz.isAgg3
  z3 := Tryz.sizeOf3
  v3 := Tryz.zeroValue3
  t4 := Tryz.underlying4
  a4 := Tryz.isAgg4
  z4 := Tryz.sizeOf4
  v4 := Tryz.zeroValue4
  t5 := Tryz.underlying5
  a5 := Tryz.isAgg5
  z5 := Tryz.sizeOf5
  v5 := Tryz.zeroValue5
  t9 := Tryz.underlying9
  a9 := Tryz.isAgg9
  z9 := Tryz.sizeOf9
  v9 := Tryz.zeroValue9
  t46 := Tryz.underlying130
  a46 := Tryz.isAgg130
  z46 := Tryz.sizeOf130
  v46 := Tryz.zeroValue130
  t51 := Tryz.underlying181
  a51 := Tryz.isAgg181
  z51 := Tryz.sizeOf181
  v51 := Tryz.zeroValue181
  t59 := Tryz.underlying109
  a59 := Tryz.isAgg109
  z59 := Tryz.sizeOf109
  v59 := Tryz.zeroValue109
  t146 := Tryz.underlying182
  a146 := Tryz.isAgg182
  z146 := Tryz.sizeOf182
  v146 := Tryz.zeroValue182
  g1 := by kernel_rfl }
open Go.RowKit Go.Lib in
theorem Tryz.strings_Cut (s sep : ByteArray) (m : Int) (w : World) (hs : s.size < 4294967281) (hm : w.cell? ⟨0, 0, none⟩ = some (.int .i64 m)) :
    Calls Tryz.prog 59 #[.string s, .string sep] w fun e w' => e = .returned (.tuple #[.string ⟨(Lib.cut s.data.toList sep.data.toList).1.toArray⟩, .string ⟨(Lib.cut s.data.toList sep.data.toList).2.1.toArray⟩, .bool (Lib.cut s.data.toList sep.data.toList).2.2]) ∧ ∃ n, w' = w.drewN n := Any.strings_Cut Tryz.lays145 s sep m w hs hm
def Tryz.lays138_ren : Go.Shelf.Ren := ⟨fun | 138 => 118 | 195 => 133 | 218 => 135 | 143 => 119 | 219 => 120 | 217 => 136 | 225 => 137 | 224 => 138 | 267 => 139 | 266 => 149 | 314 => 150 | n => n, fun | 9 => 9 | 3 => 3 | 4 => 4 | 5 => 5 | 0 => 0 | 46 => 130 | 146 => 182 | 51 => 181 | n => n, fun | 1 => 0 | n => n⟩
theorem Tryz.lays138 : Go.Proofs.Lays.n138 Tryz.prog Tryz.lays138_ren := {
  mixed := by kernel_rfl
  f138 := Tryz.func118.trans (congrArg some (by kernel_rfl))
  f143 := Tryz.func119.trans (congrArg some (by kernel_rfl))
  f195 := Tryz.func133.trans (congrArg some (by kernel_rfl))
  f217 := Tryz.func136.trans (congrArg some (by kernel_rfl))
  f218 := Tryz.func135.trans (congrArg some (by kernel_rfl))
  f219 := Tryz.func120.trans (congrArg some (by kernel_rfl))
  f224 := Tryz.func138.trans (congrArg some (by kernel_rfl))
  f225 := Tryz.func137.trans (congrArg some (by kernel_rfl))
  f266 := Tryz.func149.trans (congrArg some (by kernel_rfl))
  f267 := Tryz.func139.trans (congrArg some (by kernel_rfl))
  f314 := Tryz.func150.trans (congrArg some (by kernel_rfl))
  t0 := Tryz.underlying0
  a0 := Tryz.isAgg0
  z0 := Tryz.sizeOf0
  v0 := Tryz.zeroValue0
  t3 := Tryz.underlying3
  a3 := Tryz.isAgg3
  z3 := Tryz.sizeOf3
  v3 := Tryz.zeroValue3
  t4 := Tryz.underlying4
  a4 := Tryz.isAgg4
  z4 := Tryz.sizeOf4
  v4 := Tryz.zeroValue4
  t5 := Tryz.underlying5
  a5 := Tryz.isAgg5
  z5 := Tryz.sizeOf5
  v5 := Tryz.zeroValue5
  t9 := Tryz.underlying9
  a9 := Tryz.isAgg9
  z9 := Tryz.sizeOf9
  v9 := Tryz.zeroValue9
  t46 := Tryz.underlying130
  a46 := Tryz.isAgg130
  z46 := Tryz.sizeOf130
  v46 := Tryz.zeroValue130
  t51 := Tryz.underlying181
  a51 := Tryz.isAgg181
  z51 := Tryz.sizeOf181
  v51 := Tryz.zeroValue181
  t146 := Tryz.underlying182
  a146 := Tryz.isAgg182
  z146 := Tryz.sizeOf182
  v146 := Tryz.zeroValue182
  g1 := by kernel_rfl }
open Go.RowKit Go.Lib in
theorem Tryz.strings_Count_one (s : ByteArray) (c : UInt8) (w : World) :
    Calls Tryz.prog 118 #[.string s, .string ⟨#[c]⟩] w fun e w' => e = .returned (.int .i64 (Lib.countByte s.data.toList c)) ∧ w' = w := Any.strings_Count_one Tryz.lays138 s c w
open Go.RowKit Go.Lib in
theorem Tryz.strings_Count (s sub : ByteArray) (m : Int) (w : World) (hs : s.size < 4294967281) (hm : w.cell? ⟨0, 0, none⟩ = some (.int .i64 m)) (h2 : 2 ≤ sub.size) :
    Calls Tryz.prog 118 #[.string s, .string sub] w fun e w' => e = .returned (.int .i64 (Lib.countB s sub)) ∧ w' = w := Any.strings_Count Tryz.lays138 s sub m w hs hm h2
def Tryz.laysM219_ren : Go.Shelf.Ren := ⟨fun | 219 => 120 | 217 => 136 | 225 => 137 | 224 => 138 | 267 => 139 | 266 => 149 | 314 => 150 | n => n, fun | 9 => 9 | 3 => 3 | 4 => 4 | 5 => 5 | 46 => 130 | 146 => 182 | 51 => 181 | n => n, fun | 1 => 0 | n => n⟩
theorem Tryz.laysM219 : Go.Proofs.LaysM.n219 Tryz.prog Tryz.laysM219_ren := {
  mixed := by kernel_rfl
  f217 := Tryz.func136.trans (congrArg some (by kernel_rfl))
  f219 := Tryz.func120.trans (congrArg some (by kernel_rfl))
  f224 := Tryz.func138.trans (congrArg some (by kernel_rfl))
  f225 := Tryz.func137.trans (congrArg some (by kernel_rfl))
  f266 := Tryz.func149.trans (congrArg some (by kernel_rfl))
  f267 := Tryz.func139.trans (congrArg some (by kernel_rfl))
  f314 := Tryz.func150.trans (congrArg some (by kernel_rfl))
  t3 := Tryz.underlying3
  a3 := Tryz.isAgg3
  z3 := Tryz.sizeOf3
  v3 := Tryz.zeroValue3
  t4 := Tryz.underlying4
  a4 := Tryz.isAgg4
  z4 := Tryz.sizeOf4
  v4 := Tryz.zeroValue4
  t5 := Tryz.underlying5
  a5 := Tryz.isAgg5
  z5 := Tryz.sizeOf5
  v5 := Tryz.zeroValue5
  t9 := Tryz.underlying9
  a9 := Tryz.isAgg9
  z9 := Tryz.sizeOf9
  v9 := Tryz.zeroValue9
  t46 := Tryz.underlying130
  a46 := Tryz.isAgg130
  z46 := Tryz.sizeOf130
  v46 := Tryz.zeroValue130
  t51 := Tryz.underlying181
  a51 := Tryz.isAgg181
  z51 := Tryz.sizeOf181
  v51 := Tryz.zeroValue181
  t146 := Tryz.underlying182
  a146 := Tryz.isAgg182
  z146 := Tryz.sizeOf182
  v146 := Tryz.zeroValue182
  g1 := by kernel_rfl
  i3 := by kernel_rfl
  i4 := by kernel_rfl
  i5 := by kernel_rfl
  i9 := by kernel_rfl
  i46 := by kernel_rfl
  i51 := by kernel_rfl
  i146 := by kernel_rfl
  m1 := by kernel_rfl
  s1_3 := fun w h => Go.Proofs.cell_of_shapedOpen_int (zero := #[.int .i64 0]) (t := 3) h (of_decide_eq_true (by kernel_rfl)) (by kernel_rfl) rfl (by kernel_rfl) (by kernel_rfl) Tryz.underlying3 }
open Go.RowKit Go.Lib in
theorem Tryz.stringslite_Index_shaped (s sub : ByteArray) (w : World) (h : w.ShapedOpen Tryz.prog) (hs : s.size < 4294967281) :
    Calls Tryz.prog 120 #[.string s, .string sub] w fun e w' => e = .returned (.int .i64 (Lib.index s.data.toList sub.data.toList)) ∧ w' = w := Any.stringslite_Index_shaped Tryz.laysM219 s sub w h hs
def Tryz.laysM143_ren : Go.Shelf.Ren := ⟨fun | 143 => 119 | 219 => 120 | 217 => 136 | 225 => 137 | 224 => 138 | 267 => 139 | 266 => 149 | 314 => 150 | n => n, fun | 9 => 9 | 3 => 3 | 4 => 4 | 5 => 5 | 46 => 130 | 146 => 182 | 51 => 181 | n => n, fun | 1 => 0 | n => n⟩
theorem Tryz.laysM143 : Go.Proofs.LaysM.n143 Tryz.prog Tryz.laysM143_ren := {
  mixed := by kernel_rfl
  f143 := Tryz.func119.trans (congrArg some (by kernel_rfl))
  f217 := Tryz.func136.trans (congrArg some (by kernel_rfl))
  f219 := Tryz.func120.trans (congrArg some (by kernel_rfl))
  f224 := Tryz.func138.trans (congrArg some (by kernel_rfl))
  f225 := Tryz.func137.trans (congrArg some (by kernel_rfl))
  f266 := Tryz.func149.trans (congrArg some (by kernel_rfl))
  f267 := Tryz.func139.trans (congrArg some (by kernel_rfl))
  f314 := Tryz.func150.trans (congrArg some (by kernel_rfl))
  t3 := Tryz.underlying3
  a3 := Tryz.isAgg3
  z3 := Tryz.sizeOf3
  v3 := Tryz.zeroValue3
  t4 := Tryz.underlying4
  a4 := Tryz.isAgg4
  z4 := Tryz.sizeOf4
  v4 := Tryz.zeroValue4
  t5 := Tryz.underlying5
  a5 := Tryz.isAgg5
  z5 := Tryz.sizeOf5
  v5 := Tryz.zeroValue5
  t9 := Tryz.underlying9
  a9 := Tryz.isAgg9
  z9 := Tryz.sizeOf9
  v9 := Tryz.zeroValue9
  t46 := Tryz.underlying130
  a46 := Tryz.isAgg130
  z46 := Tryz.sizeOf130
  v46 := Tryz.zeroValue130
  t51 := Tryz.underlying181
  a51 := Tryz.isAgg181
  z51 := Tryz.sizeOf181
  v51 := Tryz.zeroValue181
  t146 := Tryz.underlying182
  a146 := Tryz.isAgg182
  z146 := Tryz.sizeOf182
  v146 := Tryz.zeroValue182
  g1 := by kernel_rfl
  i3 := by kernel_rfl
  i4 := by kernel_rfl
  i5 := by kernel_rfl
  i9 := by kernel_rfl
  i46 := by kernel_rfl
  i51 := by kernel_rfl
  i146 := by kernel_rfl
  m1 := by kernel_rfl
  s1_3 := fun w h => Go.Proofs.cell_of_shapedOpen_int (zero := #[.int .i64 0]) (t := 3) h (of_decide_eq_true (by kernel_rfl)) (by kernel_rfl) rfl (by kernel_rfl) (by kernel_rfl) Tryz.underlying3 }
open Go.RowKit Go.Lib in
theorem Tryz.strings_Index_shaped (s sub : ByteArray) (w : World) (h : w.ShapedOpen Tryz.prog) (hs : s.size < 4294967281) :
    Calls Tryz.prog 119 #[.string s, .string sub] w fun e w' => e = .returned (.int .i64 (Lib.index s.data.toList sub.data.toList)) ∧ w' = w := Any.strings_Index_shaped Tryz.laysM143 s sub w h hs
def Tryz.laysM220_ren : Go.Shelf.Ren := ⟨fun | 220 => 96 | 219 => 120 | 217 => 136 | 225 => 137 | 224 => 138 | 267 => 139 | 266 => 149 | 314 => 150 | n => n, fun | 9 => 9 | 4 => 4 | 3 => 3 | 5 => 5 | 46 => 130 | 146 => 182 | 51 => 181 | n => n, fun | 1 => 0 | n => n⟩
theorem Tryz.laysM220 : Go.Proofs.LaysM.n220 Tryz.prog Tryz.laysM220_ren := {
  mixed := by kernel_rfl
  f217 := Tryz.func136.trans (congrArg some (by kernel_rfl))
  f219 := Tryz.func120.trans (congrArg some (by kernel_rfl))
  f220 := Tryz.func96.trans (congrArg some (by kernel_rfl))
  f224 := Tryz.func138.trans (congrArg some (by kernel_rfl))
  f225 := Tryz.func137.trans (congrArg some (by kernel_rfl))
  f266 := Tryz.func149.trans (congrArg some (by kernel_rfl))
  f267 := Tryz.func139.trans (congrArg some (by kernel_rfl))
  f314 := Tryz.func150.trans (congrArg some (by kernel_rfl))
  t3 := Tryz.underlying3
  a3 := Tryz.isAgg3
  z3 := Tryz.sizeOf3
  v3 := Tryz.zeroValue3
  t4 := Tryz.underlying4
  a4 := Tryz.isAgg4
  z4 := Tryz.sizeOf4
  v4 := Tryz.zeroValue4
  t5 := Tryz.underlying5
  a5 := Tryz.isAgg5
  z5 := Tryz.sizeOf5
  v5 := Tryz.zeroValue5
  t9 := Tryz.underlying9
  a9 := Tryz.isAgg9
  z9 := Tryz.sizeOf9
  v9 := Tryz.zeroValue9
  t46 := Tryz.underlying130
  a46 := Tryz.isAgg130
  z46 := Tryz.sizeOf130
  v46 := Tryz.zeroValue130
  t51 := Tryz.underlying181
  a51 := Tryz.isAgg181
  z51 := Tryz.sizeOf181
  v51 := Tryz.zeroValue181
  t146 := Tryz.underlying182
  a146 := Tryz.isAgg182
  z146 := Tryz.sizeOf182
  v146 := Tryz.zeroValue182
  g1 := by kernel_rfl
  i3 := by kernel_rfl
  i4 := by kernel_rfl
  i5 := by kernel_rfl
  i9 := by kernel_rfl
  i46 := by kernel_rfl
  i51 := by kernel_rfl
  i146 := by kernel_rfl
  m1 := by kernel_rfl
  s1_3 := fun w h => Go.Proofs.cell_of_shapedOpen_int (zero := #[.int .i64 0]) (t := 3) h (of_decide_eq_true (by kernel_rfl)) (by kernel_rfl) rfl (by kernel_rfl) (by kernel_rfl) Tryz.underlying3 }
open Go.RowKit Go.Lib in
theorem Tryz.stringslite_Cut_shaped (s sep : ByteArray) (w : World) (h : w.ShapedOpen Tryz.prog) (hs : s.size < 4294967281) :
    Calls Tryz.prog 96 #[.string s, .string sep] w fun e w' => e = .returned (.tuple #[.string ⟨(Lib.cut s.data.toList sep.data.toList).1.toArray⟩, .string ⟨(Lib.cut s.data.toList sep.data.toList).2.1.toArray⟩, .bool (Lib.cut s.data.toList sep.data.toList).2.2]) ∧ ∃ n, w' = w.drewN n := Any.stringslite_Cut_shaped Tryz.laysM220 s sep w h hs
def Tryz.laysM145_ren : Go.Shelf.Ren := ⟨fun | 145 => 59 | 220 => 96 | 219 => 120 | 217 => 136 | 225 => 137 | 224 => 138 | 267 => 139 | 266 => 149 | 314 => 150 | n => n, fun | 9 => 9 | 4 => 4 | 59 => 109 | 3 => 3 | 5 => 5 | 46 => 130 | 146 => 182 | 51 => 181 | n => n, fun | 1 => 0 | n => n⟩
theorem Tryz.laysM145 : Go.Proofs.LaysM.n145 Tryz.prog Tryz.laysM145_ren := {
  mixed := by kernel_rfl
  f145 := Tryz.func59.trans (congrArg some (by kernel_rfl))
  f217 := Tryz.func136.trans (congrArg some (by kernel_rfl))
  f219 := Tryz.func120.trans (congrArg some (by kernel_rfl))
  f220 := Tryz.func96.trans (congrArg some (by kernel_rfl))
  f224 := Tryz.func138.trans (congrArg some (by kernel_rfl))
  f225 := Tryz.func137.trans (congrArg some (by kernel_rfl))
  f266 := Tryz.func149.trans (congrArg some (by kernel_rfl))
  f267 := Tryz.func139.trans (congrArg some (by kernel_rfl))
  f314 := Tryz.func150.trans (congrArg some (by kernel_rfl))
  t3 := Tryz.underlying3
  a3 := Tryz.isAgg3
  z3 := Tryz.sizeOf3
  v3 := Tryz.zeroValue3
  t4 := Tryz.underlying4
  a4 := Tryz.isAgg4
  z4 := Tryz.sizeOf4
  v4 := Tryz.zeroValue4
  t5 := Tryz.underlying5
  a5 := Tryz.isAgg5
  z5 := Tryz.sizeOf5
  v5 := Tryz.zeroValue5
  t9 := Tryz.underlying9
  a9 := Tryz.isAgg9
  z9 := Tryz.sizeOf9
  v9 := Tryz.zeroValue9
  t46 := Tryz.underlying130
  a46 := Tryz.isAgg130
  z46 := Tryz.sizeOf130
  v46 := Tryz.zeroValue130
  t51 := Tryz.underlying181
  a51 := Tryz.isAgg181
  z51 := Tryz.sizeOf181
  v51 := Tryz.zeroValue181
  t59 := Tryz.underlying109
  a59 := Tryz.isAgg109
  z59 := Tryz.sizeOf109
  v59 := Tryz.zeroValue109
  t146 := Tryz.underlying182
  a146 := Tryz.isAgg182
  z146 := Tryz.sizeOf182
  v146 := Tryz.zeroValue182
  g1 := by kernel_rfl
  i3 := by kernel_rfl
  i4 := by kernel_rfl
  i5 := by kernel_rfl
  i9 := by kernel_rfl
  i46 := by kernel_rfl
  i51 := by kernel_rfl
  i59 := by kernel_rfl
  i146 := by kernel_rfl
  m1 := by kernel_rfl
  s1_3 := fun w h => Go.Proofs.cell_of_shapedOpen_int (zero := #[.int .i64 0]) (t := 3) h (of_decide_eq_true (by kernel_rfl)) (by kernel_rfl) rfl (by kernel_rfl) (by kernel_rfl) Tryz.underlying3 }
open Go.RowKit Go.Lib in
theorem Tryz.strings_Cut_shaped (s sep : ByteArray) (w : World) (h : w.ShapedOpen Tryz.prog) (hs : s.size < 4294967281) :
    Calls Tryz.prog 59 #[.string s, .string sep] w fun e w' => e = .returned (.tuple #[.string ⟨(Lib.cut s.data.toList sep.data.toList).1.toArray⟩, .string ⟨(Lib.cut s.data.toList sep.data.toList).2.1.toArray⟩, .bool (Lib.cut s.data.toList sep.data.toList).2.2]) ∧ ∃ n, w' = w.drewN n := Any.strings_Cut_shaped Tryz.laysM145 s sep w h hs
def Tryz.laysM138_ren : Go.Shelf.Ren := ⟨fun | 138 => 118 | 195 => 133 | 218 => 135 | 143 => 119 | 219 => 120 | 217 => 136 | 225 => 137 | 224 => 138 | 267 => 139 | 266 => 149 | 314 => 150 | n => n, fun | 9 => 9 | 3 => 3 | 4 => 4 | 5 => 5 | 0 => 0 | 46 => 130 | 146 => 182 | 51 => 181 | n => n, fun | 1 => 0 | n => n⟩
theorem Tryz.laysM138 : Go.Proofs.LaysM.n138 Tryz.prog Tryz.laysM138_ren := {
  mixed := by kernel_rfl
  f138 := Tryz.func118.trans (congrArg some (by kernel_rfl))
  f143 := Tryz.func119.trans (congrArg some (by kernel_rfl))
  f195 := Tryz.func133.trans (congrArg some (by kernel_rfl))
  f217 := Tryz.func136.trans (congrArg some (by kernel_rfl))
  f218 := Tryz.func135.trans (congrArg some (by kernel_rfl))
  f219 := Tryz.func120.trans (congrArg some (by kernel_rfl))
  f224 := Tryz.func138.trans (congrArg some (by kernel_rfl))
  f225 := Tryz.func137.trans (congrArg some (by kernel_rfl))
  f266 := Tryz.func149.trans (congrArg some (by kernel_rfl))
  f267 := Tryz.func139.trans (congrArg some (by kernel_rfl))
  f314 := Tryz.func150.trans (congrArg some (by kernel_rfl))
  t0 := Tryz.underlying0
  a0 := Tryz.isAgg0
  z0 := Tryz.sizeOf0
  v0 := Tryz.zeroValue0
  t3 := Tryz.underlying3
  a3 := Tryz.isAgg3
  z3 := Tryz.sizeOf3
  v3 := Tryz.zeroValue3
  t4 := Tryz.underlying4
  a4 := Tryz.isAgg4
  z4 := Tryz.sizeOf4
  v4 := Tryz.zeroValue4
  t5 := Tryz.underlying5
  a5 := Tryz.isAgg5
  z5 := Tryz.sizeOf5
  v5 := Tryz.zeroValue5
  t9 := Tryz.underlying9
  a9 := Tryz.isAgg9
  z9 := Tryz.sizeOf9
  v9 := Tryz.zeroValue9
  t46 := Tryz.underlying130
  a46 := Tryz.isAgg130
  z46 := Tryz.sizeOf130
  v46 := Tryz.zeroValue130
  t51 := Tryz.underlying181
  a51 := Tryz.isAgg181
  z51 := Tryz.sizeOf181
  v51 := Tryz.zeroValue181
  t146 := Tryz.underlying182
  a146 := Tryz.isAgg182
  z146 := Tryz.sizeOf182
  v146 := Tryz.zeroValue182
  g1 := by kernel_rfl
  i0 := by kernel_rfl
  i3 := by kernel_rfl
  i4 := by kernel_rfl
  i5 := by kernel_rfl
  i9 := by kernel_rfl
  i46 := by kernel_rfl
  i51 := by kernel_rfl
  i146 := by kernel_rfl
  m1 := by kernel_rfl
  s1_3 := fun w h => Go.Proofs.cell_of_shapedOpen_int (zero := #[.int .i64 0]) (t := 3) h (of_decide_eq_true (by kernel_rfl)) (by kernel_rfl) rfl (by kernel_rfl) (by kernel_rfl) Tryz.underlying3 }
open Go.RowKit Go.Lib in
theorem Tryz.strings_Count_shaped (s sub : ByteArray) (w : World) (h : w.ShapedOpen Tryz.prog) (hs : s.size < 4294967281) (h2 : 2 ≤ sub.size) :
    Calls Tryz.prog 118 #[.string s, .string sub] w fun e w' => e = .returned (.int .i64 (Lib.countB s sub)) ∧ w' = w := Any.strings_Count_shaped Tryz.laysM138 s sub w h hs h2
def Tryz.laysM288_ren : Go.Shelf.Ren := ⟨fun | 288 => 145 | 283 => 141 | 284 => 142 | 285 => 143 | 286 => 144 | 129 => 153 | 317 => 152 | 318 => 154 | 319 => 155 | 320 => 156 | 337 => 157 | 338 => 158 | n => n, fun | 37 => 40 | 53 => 129 | 3 => 3 | 4 => 4 | 9 => 9 | 171 => 173 | 0 => 0 | 173 => 176 | 212 => 185 | 51 => 181 | 5 => 5 | 20 => 20 | 213 => 186 | 46 => 130 | 232 => 193 | 233 => 194 | n => n, fun | 17 => 1 | 18 => 4 | 19 => 5 | n => n⟩
theorem Tryz.laysM288 : Go.Proofs.LaysM.n288 Tryz.prog Tryz.laysM288_ren := {
  mixed := by kernel_rfl
  f129 := Tryz.func153.trans (congrArg some (by kernel_rfl))
  f283 := Tryz.func141.trans (congrArg some (by kernel_rfl))
  f284 := Tryz.func142.trans (congrArg some (by kernel_rfl))
  f285 := Tryz.func143.trans (congrArg some (by kernel_rfl))
  f286 := Tryz.func144.trans (congrArg some (by kernel_rfl))
  f288 := Tryz.func145.trans (congrArg some (by kernel_rfl))
  f317 := Tryz.func152.trans (congrArg some (by kernel_rfl))
  f318 := Tryz.func154.trans (congrArg some (by kernel_rfl))
  f319 := Tryz.func155.trans (congrArg some (by kernel_rfl))
  f320 := Tryz.func156.trans (congrArg some (by kernel_rfl))
  f337 := Tryz.func157.trans (congrArg some (by kernel_rfl))
  f338 := Tryz.func158.trans (congrArg some (by kernel_rfl))
  t0 := Tryz.underlying0
  a0 := Tryz.isAgg0
  z0 := Tryz.sizeOf0
  v0 := Tryz.zeroValue0
  t3 := Tryz.underlying3
  a3 := Tryz.isAgg3
  z3 := Tryz.sizeOf3
  v3 := Tryz.zeroValue3
  t4 := Tryz.underlying4
  a4 := Tryz.isAgg4
  z4 := Tryz.sizeOf4
  v4 := Tryz.zeroValue4
  t5 := Tryz.underlying5
  a5 := Tryz.isAgg5
  z5 := Tryz.sizeOf5
  v5 := Tryz.zeroValue5
  t9 := Tryz.underlying9
  a9 := Tryz.isAgg9
  z9 := Tryz.sizeOf9
  v9 := Tryz.zeroValue9
  t20 := Tryz.underlying20
  a20 := Tryz.isAgg20
  z20 := Tryz.sizeOf20
  v20 := Tryz.zeroValue20
  t37 := Tryz.underlying40
  a37 := Tryz.isAgg40
  z37 := Tryz.sizeOf40
  v37 := Tryz.zeroValue40
  t46 := Tryz.underlying130
  a46 := Tryz.isAgg130
  z46 := Tryz.sizeOf130
  v46 := Tryz.zeroValue130
  t51 := Tryz.underlying181
  a51 := Tryz.isAgg181
  z51 := Tryz.sizeOf181
  v51 := Tryz.zeroValue181
  t53 := Tryz.underlying129
  a53 := Tryz.isAgg129
  z53 := Tryz.sizeOf129
  v53 := Tryz.zeroValue129
  t171 := Tryz.underlying173
  a171 := Tryz.isAgg173
  z171 := Tryz.sizeOf173
  v171 := Tryz.zeroValue173
  t173 := Tryz.underlying176
  a173 := Tryz.isAgg176
  z173 := Tryz.sizeOf176
  v173 := Tryz.zeroValue176
  t212 := Tryz.underlying185
  a212 := Tryz.isAgg185
  z212 := Tryz.sizeOf185
  v212 := Tryz.zeroValue185
  t213 := Tryz.underlying186
  a213 := Tryz.isAgg186
  z213 := Tryz.sizeOf186
  t232 := Tryz.underlying193
  a232 := Tryz.isAgg193
  z232 := Tryz.sizeOf193
  v232 := Tryz.zeroValue193
  t233 := Tryz.underlying194
  a233 := Tryz.isAgg194
  z233 := Tryz.sizeOf194
  v233 := Tryz.zeroValue194
  g17 := by kernel_rfl
  g18 := by kernel_rfl
  g19 := by kernel_rfl
  i0 := by kernel_rfl
  i3 := by kernel_rfl
  i4 := by kernel_rfl
  i5 := by kernel_rfl
  i9 := by kernel_rfl
  i20 := by kernel_rfl
  i37 := by kernel_rfl
  i46 := by kernel_rfl
  i51 := by kernel_rfl
  i53 := by kernel_rfl
  i171 := by kernel_rfl
  i173 := by kernel_rfl
  i212 := by kernel_rfl
  i232 := by kernel_rfl
  i233 := by kernel_rfl
  m17 := by kernel_rfl
  m18 := by kernel_rfl
  m19 := by kernel_rfl }
open Go.RowKit Go.Sort Go.Lib in
theorem Tryz.internal_strconv_AppendUint_10_small (B n u : Nat) (hu : u < 100) (sv : Value) (xs : List Value) (w : World) (hown : w.ownsRow B 5 1 sv n xs) (hBw : B ≤ w.heap.size) (hlim : n + 20 ≤ 140737488355328) :
    Calls Tryz.prog 145 #[sv, .int .u64 u, .int .i64 10] w fun e w' => ∃ v', e = .returned v' ∧ w'.ownsRow B 5 1 v' (n + (Lib.decDigits u).length) (xs ++ Lib.byteCells (Lib.decDigits u)) ∧ Below B w w' ∧ Lib.OthersKept 5 none w w' := Any.internal_strconv_AppendUint_10_small Tryz.laysM288 B n u hu sv xs w hown hBw hlim
open Go.RowKit Go.Sort Go.Lib in
theorem Tryz.internal_strconv_AppendUint_10_big (B n u : Nat) (hu : 100 ≤ u) (hu64 : u < 18446744073709551616) (sv : Value) (xs : List Value) (w : World) (hown : w.ownsRow B 5 1 sv n xs) (hBw : B ≤ w.heap.size) (hlim : n + 20 ≤ 140737488355328) (htab : Lib.TabIs Tryz.prog w "internal/strconv.uint64pow10" .u64 Lib.pow10Tab) :
    Calls Tryz.prog 145 #[sv, .int .u64 u, .int .i64 10] w fun e w' => ∃ v', e = .returned v' ∧ w'.ownsRow B 5 1 v' (n + (Lib.decDigits u).length) (xs ++ Lib.byteCells (Lib.decDigits u)) ∧ Below B w w' ∧ Lib.OthersKept 5 none w w' := Any.internal_strconv_AppendUint_10_big Tryz.laysM288 B n u hu hu64 sv xs w hown hBw hlim htab
open Go.RowKit Go.Sort Go.Lib in
theorem Tryz.internal_strconv_AppendUint_10 (B n u : Nat) (hu64 : u < 18446744073709551616) (sv : Value) (xs : List Value) (w : World) (hown : w.ownsRow B 5 1 sv n xs) (hBw : B ≤ w.heap.size) (hlim : n + 20 ≤ 140737488355328) (htab : Lib.TabIs Tryz.prog w "internal/strconv.uint64pow10" .u64 Lib.pow10Tab) :
    Calls Tryz.prog 145 #[sv, .int .u64 u, .int .i64 10] w fun e w' => ∃ v', e = .returned v' ∧ w'.ownsRow B 5 1 v' (n + (Lib.decDigits u).length) (xs ++ Lib.byteCells (Lib.decDigits u)) ∧ Below B w w' ∧ Lib.OthersKept 5 none w w' := Any.internal_strconv_AppendUint_10 Tryz.laysM288 B n u hu64 sv xs w hown hBw hlim htab
def Tryz.laysM249_ren : Go.Shelf.Ren := ⟨fun | 249 => 126 | 288 => 145 | 283 => 141 | 284 => 142 | 285 => 143 | 286 => 144 | 129 => 153 | 317 => 152 | 318 => 154 | 319 => 155 | 320 => 156 | 337 => 157 | 338 => 158 | n => n, fun | 37 => 40 | 2 => 2 | 3 => 3 | 53 => 129 | 4 => 4 | 9 => 9 | 171 => 173 | 0 => 0 | 173 => 176 | 212 => 185 | 51 => 181 | 5 => 5 | 20 => 20 | 213 => 186 | 46 => 130 | 232 => 193 | 233 => 194 | n => n, fun | 17 => 1 | 18 => 4 | 19 => 5 | n => n⟩
theorem Tryz.laysM249 : Go.Proofs.LaysM.n249 Tryz.prog Tryz.laysM249_ren := {
  mixed := by kernel_rfl
  f129 := Tryz.func153.trans (congrArg some (by kernel_rfl))
  f249 := Tryz.func126.trans (congrArg some (by kernel_rfl))
  f283 := Tryz.func141.trans (congrArg some (by kernel_rfl))
  f284 := Tryz.func142.trans (congrArg some (by kernel_rfl))
  f285 := Tryz.func143.trans (congrArg some (by kernel_rfl))
  f286 := Tryz.func144.trans (congrArg some (by kernel_rfl))
  f288 := Tryz.func145.trans (congrArg some (by kernel_rfl))
  f317 := Tryz.func152.trans (congrArg some (by kernel_rfl))
  f318 := Tryz.func154.trans (congrArg some (by kernel_rfl))
  f319 := Tryz.func155.trans (congrArg some (by kernel_rfl))
  f320 := Tryz.func156.trans (congrArg some (by kernel_rfl))
  f337 := Tryz.func157.trans (congrArg some (by kernel_rfl))
  f338 := Tryz.func158.trans (congrArg some (by kernel_rfl))
  t0 := Tryz.underlying0
  a0 := Tryz.isAgg0
  z0 := Tryz.sizeOf0
  v0 := Tryz.zeroValue0
  t2 := Tryz.underlying2
  a2 := Tryz.isAgg2
  z2 := Tryz.sizeOf2
  v2 := Tryz.zeroValue2
  t3 := Tryz.underlying3
  a3 := Tryz.isAgg3
  z3 := Tryz.sizeOf3
  v3 := Tryz.zeroValue3
  t4 := Tryz.underlying4
  a4 := Tryz.isAgg4
  z4 := Tryz.sizeOf4
  v4 := Tryz.zeroValue4
  t5 := Tryz.underlying5
  a5 := Tryz.isAgg5
  z5 := Tryz.sizeOf5
  v5 := Tryz.zeroValue5
  t9 := Tryz.underlying9
  a9 := Tryz.isAgg9
  z9 := Tryz.sizeOf9
  v9 := Tryz.zeroValue9
  t20 := Tryz.underlying20
  a20 := Tryz.isAgg20
  z20 := Tryz.sizeOf20
  v20 := Tryz.zeroValue20
  t37 := Tryz.underlying40
  a37 := Tryz.isAgg40
  z37 := Tryz.sizeOf40
  v37 := Tryz.zeroValue40
  t46 := Tryz.underlying130
  a46 := Tryz.isAgg130
  z46 := Tryz.sizeOf130
  v46 := Tryz.zeroValue130
  t51 := Tryz.underlying181
  a51 := Tryz.isAgg181
  z51 := Tryz.sizeOf181
  v51 := Tryz.zeroValue181
  t53 := Tryz.underlying129
  a53 := Tryz.isAgg129
  z53 := Tryz.sizeOf129
  v53 := Tryz.zeroValue129
  t171 := Tryz.underlying173
  a171 := Tryz.isAgg173
  z171 := Tryz.sizeOf173
  v171 := Tryz.zeroValue173
  t173 := Tryz.underlying176
  a173 := Tryz.isAgg176
  z173 := Tryz.sizeOf176
  v173 := Tryz.zeroValue176
  t212 := Tryz.underlying185
  a212 := Tryz.isAgg185
  z212 := Tryz.sizeOf185
  v212 := Tryz.zeroValue185
  t213 := Tryz.underlying186
  a213 := Tryz.isAgg186
  z213 := Tryz.sizeOf186
  t232 := Tryz.underlying193
  a232 := Tryz.isAgg193
  z232 := Tryz.sizeOf193
  v232 := Tryz.zeroValue193
  t233 := Tryz.underlying194
  a233 := Tryz.isAgg194
  z233 := Tryz.sizeOf194
  v233 := Tryz.zeroValue194
  g17 := by kernel_rfl
  g18 := by kernel_rfl
  g19 := by kernel_rfl
  i0 := by kernel_rfl
  i2 := by kernel_rfl
  i3 := by kernel_rfl
  i4 := by kernel_rfl
  i5 := by kernel_rfl
  i9 := by kernel_rfl
  i20 := by kernel_rfl
  i37 := by kernel_rfl
  i46 := by kernel_rfl
  i51 := by kernel_rfl
  i53 := by kernel_rfl
  i171 := by kernel_rfl
  i173 := by kernel_rfl
  i212 := by kernel_rfl
  i232 := by kernel_rfl
  i233 := by kernel_rfl
  m17 := by kernel_rfl
  m18 := by kernel_rfl
  m19 := by kernel_rfl }
open Go.RowKit Go.Sort Go.Lib in
theorem Tryz.internal_strconv_AppendInt_10 (B n : Nat) (i : Int) (h0 : -9223372036854775808 ≤ i) (h1 : i ≤ 9223372036854775807) (sv : Value) (xs : List Value) (w : World) (hown : w.ownsRow B 5 1 sv n xs) (hBw : B ≤ w.heap.size) (hlim : n + 21 ≤ 140737488355328) (htab : Lib.TabBelow Tryz.prog B w "internal/strconv.uint64pow10" .u64 Lib.pow10Tab) :
    Calls Tryz.prog 126 #[sv, .int .i64 i, .int .i64 10] w fun e w' => ∃ v', e = .returned v' ∧ w'.ownsRow B 5 1 v' (n + (Lib.itoa i).length) (xs ++ Lib.byteCells (Lib.itoa i)) ∧ Below B w w' ∧ Lib.OthersKept 5 none w w' := Any.internal_strconv_AppendInt_10 Tryz.laysM249 B n i h0 h1 sv xs w hown hBw hlim htab
def Tryz.laysM176_ren : Go.Shelf.Ren := ⟨fun | 176 => 100 | 249 => 126 | 288 => 145 | 283 => 141 | 284 => 142 | 285 => 143 | 286 => 144 | 129 => 153 | 317 => 152 | 318 => 154 | 319 => 155 | 320 => 156 | 337 => 157 | 338 => 158 | n => n, fun | 37 => 40 | 2 => 2 | 3 => 3 | 53 => 129 | 4 => 4 | 9 => 9 | 171 => 173 | 0 => 0 | 173 => 176 | 212 => 185 | 51 => 181 | 5 => 5 | 20 => 20 | 213 => 186 | 46 => 130 | 232 => 193 | 233 => 194 | n => n, fun | 17 => 1 | 18 => 4 | 19 => 5 | n => n⟩
theorem Tryz.laysM176 : Go.Proofs.LaysM.n176 Tryz.prog Tryz.laysM176_ren := {
  mixed := by kernel_rfl
  f129 := Tryz.func153.trans (congrArg some (by kernel_rfl))
  f176 := Tryz.func100.trans (congrArg some (by kernel_rfl))
  f249 := Tryz.func126.trans (congrArg some (by kernel_rfl))
  f283 := Tryz.func141.trans (congrArg some (by kernel_rfl))
  f284 := Tryz.func142.trans (congrArg some (by kernel_rfl))
  f285 := Tryz.func143.trans (congrArg some (by kernel_rfl))
  f286 := Tryz.func144.trans (congrArg some (by kernel_rfl))
  f288 := Tryz.func145.trans (congrArg some (by kernel_rfl))
  f317 := Tryz.func152.trans (congrArg some (by kernel_rfl))
  f318 := Tryz.func154.trans (congrArg some (by kernel_rfl))
  f319 := Tryz.func155.trans (congrArg some (by kernel_rfl))
  f320 := Tryz.func156.trans (congrArg some (by kernel_rfl))
  f337 := Tryz.func157.trans (congrArg some (by kernel_rfl))
  f338 := Tryz.func158.trans (congrArg some (by kernel_rfl))
  t0 := Tryz.underlying0
  a0 := Tryz.isAgg0
  z0 := Tryz.sizeOf0
  v0 := Tryz.zeroValue0
  t2 := Tryz.underlying2
  a2 := Tryz.isAgg2
  z2 := Tryz.sizeOf2
  v2 := Tryz.zeroValue2
  t3 := Tryz.underlying3
  a3 := Tryz.isAgg3
  z3 := Tryz.sizeOf3
  v3 := Tryz.zeroValue3
  t4 := Tryz.underlying4
  a4 := Tryz.isAgg4
  z4 := Tryz.sizeOf4
  v4 := Tryz.zeroValue4
  t5 := Tryz.underlying5
  a5 := Tryz.isAgg5
  z5 := Tryz.sizeOf5
  v5 := Tryz.zeroValue5
  t9 := Tryz.underlying9
  a9 := Tryz.isAgg9
  z9 := Tryz.sizeOf9
  v9 := Tryz.zeroValue9
  t20 := Tryz.underlying20
  a20 := Tryz.isAgg20
  z20 := Tryz.sizeOf20
  v20 := Tryz.zeroValue20
  t37 := Tryz.underlying40
  a37 := Tryz.isAgg40
  z37 := Tryz.sizeOf40
  v37 := Tryz.zeroValue40
  t46 := Tryz.underlying130
  a46 := Tryz.isAgg130
  z46 := Tryz.sizeOf130
  v46 := Tryz.zeroValue130
  t51 := Tryz.underlying181
  a51 := Tryz.isAgg181
  z51 := Tryz.sizeOf181
  v51 := Tryz.zeroValue181
  t53 := Tryz.underlying129
  a53 := Tryz.isAgg129
  z53 := Tryz.sizeOf129
  v53 := Tryz.zeroValue129
  t171 := Tryz.underlying173
  a171 := Tryz.isAgg173
  z171 := Tryz.sizeOf173
  v171 := Tryz.zeroValue173
  t173 := Tryz.underlying176
  a173 := Tryz.isAgg176
  z173 := Tryz.sizeOf176
  v173 := Tryz.zeroValue176
  t212 := Tryz.underlying185
  a212 := Tryz.isAgg185
  z212 := Tryz.sizeOf185
  v212 := Tryz.zeroValue185
  t213 := Tryz.underlying186
  a213 := Tryz.isAgg186
  z213 := Tryz.sizeOf186
  t232 := Tryz.underlying193
  a232 := Tryz.isAgg193
  z232 := Tryz.sizeOf193
  v232 := Tryz.zeroValue193
  t233 := Tryz.underlying194
  a233 := Tryz.isAgg194
  z233 := Tryz.sizeOf194
  v233 := Tryz.zeroValue194
  g17 := by kernel_rfl
  g18 := by kernel_rfl
  g19 := by kernel_rfl
  i0 := by kernel_rfl
  i2 := by kernel_rfl
  i3 := by kernel_rfl
  i4 := by kernel_rfl
  i5 := by kernel_rfl
  i9 := by kernel_rfl
  i20 := by kernel_rfl
  i37 := by kernel_rfl
  i46 := by kernel_rfl
  i51 := by kernel_rfl
  i53 := by kernel_rfl
  i171 := by kernel_rfl
  i173 := by kernel_rfl
  i212 := by kernel_rfl
  i232 := by kernel_rfl
  i233 := by kernel_rfl
  m17 := by kernel_rfl
  m18 := by kernel_rfl
  m19 := by kernel_rfl }
open Go.RowKit Go.Sort Go.Lib in
theorem Tryz.strconv_AppendInt_10 (B n : Nat) (i : Int) (h0 : -9223372036854775808 ≤ i) (h1 : i ≤ 9223372036854775807) (sv : Value) (xs : List Value) (w : World) (hown : w.ownsRow B 5 1 sv n xs) (hBw : B ≤ w.heap.size) (hlim : n + 21 ≤ 140737488355328) (htab : Lib.TabBelow Tryz.prog B w "internal/strconv.uint64pow10" .u64 Lib.pow10Tab) :
    Calls Tryz.prog 100 #[sv, .int .i64 i, .int .i64 10] w fun e w' => ∃ v', e = .returned v' ∧ w'.ownsRow B 5 1 v' (n + (Lib.itoa i).length) (xs ++ Lib.byteCells (Lib.itoa i)) ∧ Below B w w' ∧ Lib.OthersKept 5 none w w' := Any.strconv_AppendInt_10 Tryz.laysM176 B n i h0 h1 sv xs w hown hBw hlim htab
def Tryz.lays206_ren : Go.Shelf.Ren := ⟨fun | 206 => 151 | n => n, fun | 9 => 9 | 4 => 4 | 3 => 3 | n => n, fun | n => n⟩
theorem Tryz.lays206 : Go.Proofs.Lays.n206 Tryz.prog Tryz.lays206_ren := {
  mixed := by kernel_rfl
  f206 := Tryz.func151.trans (congrArg some (by kernel_rfl))
  t3 := Tryz.underlying3
  a3 := Tryz.isAgg3
  z3 := Tryz.sizeOf3
  v3 := Tryz.zeroValue3
  t4 := Tryz.underlying4
  a4 := Tryz.isAgg4
  z4 := Tryz.sizeOf4
  v4 := Tryz.zeroValue4
  t9 := Tryz.underlying9
  a9 := Tryz.isAgg9
  z9 := Tryz.sizeOf9
  v9 := Tryz.zeroValue9 }
open Go.RowKit Go.Lib in
theorem Tryz.stringslite_HasPrefix (s p : ByteArray) (w : World) :
    Calls Tryz.prog 151 #[.string s, .string p] w fun e w' => e = .returned (.bool (Lib.hasPrefix s.data.toList p.data.toList)) ∧ w' = w := Any.stringslite_HasPrefix Tryz.lays206 s p w
open Go.RowKit Go.Lib in
theorem Tryz.strings_Count_any (s sep : ByteArray) (m : Int) (w : World) (hs : s.size < 4294967281) (hm : w.cell? ⟨0, 0, none⟩ = some (.int .i64 m)) (h1 : 1 ≤ sep.size) :
    Calls Tryz.prog 118 #[.string s, .string sep] w fun e w' => e = .returned (.int .i64 (Lib.countB s sep)) ∧ w' = w := Any.strings_Count_any Tryz.lays138 s sep m w hs hm h1
def Tryz.lays221_ren : Go.Shelf.Ren := ⟨fun | 221 => 95 | 268 => 117 | 138 => 118 | 143 => 119 | 195 => 133 | 197 => 134 | 218 => 135 | 219 => 120 | 260 => 148 | 217 => 136 | 225 => 137 | 224 => 138 | 267 => 139 | 266 => 149 | 314 => 150 | n => n, fun | 9 => 9 | 3 => 3 | 31 => 71 | 4 => 4 | 0 => 0 | 105 => 170 | 21 => 21 | 5 => 5 | 46 => 130 | 119 => 188 | 139 => 191 | 138 => 190 | 146 => 182 | 51 => 181 | n => n, fun | 1 => 0 | 3 => 2 | 4 => 3 | n => n⟩
theorem Tryz.lays221 : Go.Proofs.Lays.n221 Tryz.prog Tryz.lays221_ren := {
  mixed := by kernel_rfl
  f138 := Tryz.func118.trans (congrArg some (by kernel_rfl))
  f143 := Tryz.func119.trans (congrArg some (by kernel_rfl))
  f195 := Tryz.func133.trans (congrArg some (by kernel_rfl))
  f197 := Tryz.func134.trans (congrArg some (by kernel_rfl))
  f217 := Tryz.func136.trans (congrArg some (by kernel_rfl))
  f218 := Tryz.func135.trans (congrArg some (by kernel_rfl))
  f219 := Tryz.func120.trans (congrArg some (by kernel_rfl))
  f221 := Tryz.func95.trans (congrArg some (by kernel_rfl))
  f224 := Tryz.func138.trans (congrArg some (by kernel_rfl))
  f225 := Tryz.func137.trans (congrArg some (by kernel_rfl))
  f260 := Tryz.func148.trans (congrArg some (by kernel_rfl))
  f266 := Tryz.func149.trans (congrArg some (by kernel_rfl))
  f267 := Tryz.func139.trans (congrArg some (by kernel_rfl))
  f268 := Tryz.func117.trans (congrArg some (by kernel_rfl))
  f314 := Tryz.func150.trans (congrArg some (by kernel_rfl))
  t0 := Tryz.underlying0
  a0 := Tryz.isAgg0
  z0 := Tryz.sizeOf0
  v0 := Tryz.zeroValue0
  t3 := Tryz.underlying3
  a3 := Tryz.isAgg3
  z3 := Tryz.sizeOf3
  v3 := Tryz.zeroValue3
  t4 := Tryz.underlying4
  a4 := Tryz.isAgg4
  z4 := Tryz.sizeOf4
  v4 := Tryz.zeroValue4
  t5 := Tryz.underlying5
  a5 := Tryz.isAgg5
  z5 := Tryz.sizeOf5
  v5 := Tryz.zeroValue5
  t9 := Tryz.underlying9
  a9 := Tryz.isAgg9
  z9 := Tryz.sizeOf9
  v9 := Tryz.zeroValue9
  t21 := Tryz.underlying21
  a21 := Tryz.isAgg21
  z21 := Tryz.sizeOf21
  v21 := Tryz.zeroValue21
  t31 := Tryz.underlying71
  a31 := Tryz.isAgg71
  z31 := Tryz.sizeOf71
  v31 := Tryz.zeroValue71
  t46 := Tryz.underlying130
  a46 := Tryz.isAgg130
  z46 := Tryz.sizeOf130
  v46 := Tryz.zeroValue130
  t51 := Tryz.underlying181
  a51 := Tryz.isAgg181
  z51 := Tryz.sizeOf181
  v51 := Tryz.zeroValue181
  t105 := Tryz.underlying170
  a105 := Tryz.isAgg170
  z105 := Tryz.sizeOf170
  v105 := Tryz.zeroValue170
  t119 := Tryz.underlying188
  a119 := Tryz.isAgg188
  z119 := Tryz.sizeOf188
  t138 := Tryz.underlying190
  a138 := Tryz.isAgg190
  z138 := Tryz.sizeOf190
  v138 := Tryz.zeroValue190
  t139 := Tryz.underlying191
  a139 := Tryz.isAgg191
  z139 := Tryz.sizeOf191
  v139 := Tryz.zeroValue191
  t146 := Tryz.underlying182
  a146 := Tryz.isAgg182
  z146 := Tryz.sizeOf182
  v146 := Tryz.zeroValue182
  g1 := by kernel_rfl
  g3 := by kernel_rfl
  g4 := by kernel_rfl }
open Go.RowKit Go.Lib in
theorem Tryz.strings_genSplit (s sep : ByteArray) (sv : Nat) (n : Int) (N : Nat) (m : Int) (w : World) (hs : s.size < 4294967281) (hm : w.cell? ⟨0, 0, none⟩ = some (.int .i64 m)) (h1 : 1 ≤ sep.size) (hsv : sv ≤ sep.size) (hn0 : n ≠ 0) (hn63 : n ≤ 9223372036854775807) (hN : (N : Int) = min (if n < 0 then (Lib.countB s sep : Int) + 1 else n) ((s.size : Int) + 1)) :
    Calls Tryz.prog 95 #[.string s, .string sep, .int .i64 sv, .int .i64 n] w fun e w' =>
      e = .returned (.slice (some ⟨w.heap.size, 0, none⟩) (Lib.splitB sep sv (N - 1) s).length N) ∧ w' = w.alloc (.cells (Lib.cellsOf (Lib.splitB sep sv (N - 1) s) N) 9) := Any.strings_genSplit Tryz.lays221 (by kernel_rfl) s sep sv n N m w hs hm h1 hsv hn0 hn63 hN
def Tryz.lays146_ren : Go.Shelf.Ren := ⟨fun | 146 => 58 | 221 => 95 | 268 => 117 | 138 => 118 | 143 => 119 | 195 => 133 | 197 => 134 | 218 => 135 | 219 => 120 | 260 => 148 | 217 => 136 | 225 => 137 | 224 => 138 | 267 => 139 | 266 => 149 | 314 => 150 | n => n, fun | 9 => 9 | 31 => 71 | 3 => 3 | 4 => 4 | 0 => 0 | 105 => 170 | 21 => 21 | 5 => 5 | 46 => 130 | 119 => 188 | 139 => 191 | 138 => 190 | 146 => 182 | 51 => 181 | n => n, fun | 1 => 0 | 3 => 2 | 4 => 3 | n => n⟩
theorem Tryz.lays146 : Go.Proofs.Lays.n146 Tryz.prog Tryz.lays146_ren := {
  mixed := by kernel_rfl
  f138 := Tryz.func118.trans (congrArg some (by kernel_rfl))
  f143 := Tryz.func119.trans (congrArg some (by kernel_rfl))
  f146 := Tryz.func58.trans (congrArg some (by kernel_rfl))
  f195 := Tryz.func133.trans (congrArg some (by kernel_rfl))
  f197 := Tryz.func134.trans (congrArg some (by kernel_rfl))
  f217 := Tryz.func136.trans (congrArg some (by kernel_rfl))
  f218 := Tryz.func135.trans (congrArg some (by kernel_rfl))
  f219 := Tryz.func120.trans (congrArg some (by kernel_rfl))
  f221 := Tryz.func95.trans (congrArg some (by kernel_rfl))
  f224 := Tryz.func138.trans (congrArg some (by kernel_rfl))
  f225 := Tryz.func137.trans (congrArg some (by kernel_rfl))
  f260 := Tryz.func148.trans (congrArg some (by kernel_rfl))
  f266 := Tryz.func149.trans (congrArg some (by kernel_rfl))
  f267 := Tryz.func139.trans (congrArg some (by kernel_rfl))
  f268 := Tryz.func117.trans (congrArg some (by kernel_rfl))
  f314 := Tryz.func150.trans (congrArg some (by kernel_rfl))
  t0 := Tryz.underlying0
  a0 := Tryz.isAgg0
  z0 := Tryz.sizeOf0
  v0 := Tryz.zeroValue0
  t3 := Tryz.underlying3
  a3 := Tryz.isAgg3
  z3 := Tryz.sizeOf3
  v3 := Tryz.zeroValue3
  t4 := Tryz.underlying4
  a4 := Tryz.isAgg4
  z4 := Tryz.sizeOf4
  v4 := Tryz.zeroValue4
  t5 := Tryz.underlying5
  a5 := Tryz.isAgg5
  z5 := Tryz.sizeOf5
  v5 := Tryz.zeroValue5
  t9 := Tryz.underlying9
  a9 := Tryz.isAgg9
  z9 := Tryz.sizeOf9
  v9 := Tryz.zeroValue9
  t21 := Tryz.underlying21
  a21 := Tryz.isAgg21
  z21 := Tryz.sizeOf21
  v21 := Tryz.zeroValue21
  t31 := Tryz.underlying71
  a31 := Tryz.isAgg71
  z31 := Tryz.sizeOf71
  v31 := Tryz.zeroValue71
  t46 := Tryz.underlying130
  a46 := Tryz.isAgg130
  z46 := Tryz.sizeOf130
  v46 := Tryz.zeroValue130
  t51 := Tryz.underlying181
  a51 := Tryz.isAgg181
  z51 := Tryz.sizeOf181
  v51 := Tryz.zeroValue181
  t105 := Tryz.underlying170
  a105 := Tryz.isAgg170
  z105 := Tryz.sizeOf170
  v105 := Tryz.zeroValue170
  t119 := Tryz.underlying188
  a119 := Tryz.isAgg188
  z119 := Tryz.sizeOf188
  t138 := Tryz.underlying190
  a138 := Tryz.isAgg190
  z138 := Tryz.sizeOf190
  v138 := Tryz.zeroValue190
  t139 := Tryz.underlying191
  a139 := Tryz.isAgg191
  z139 := Tryz.sizeOf191
  v139 := Tryz.zeroValue191
  t146 := Tryz.underlying182
  a146 := Tryz.isAgg182
  z146 := Tryz.sizeOf182
  v146 := Tryz.zeroValue182
  g1 := by kernel_rfl
  g3 := by kernel_rfl
  g4 := by kernel_rfl }
open Go.RowKit Go.Lib in
theorem Tryz.strings_Split (s sep : ByteArray) (m : Int) (w : World) (hs : s.size < 4294967281) (hm : w.cell? ⟨0, 0, none⟩ = some (.int .i64 m)) (h1 : 1 ≤ sep.size) :
    Calls Tryz.prog 58 #[.string s, .string sep] w fun e w' =>
      e = .returned (.slice (some ⟨w.heap.size, 0, none⟩) (Lib.countB s sep + 1) (Lib.countB s sep + 1)) ∧ w' = w.alloc (.cells ((Lib.splitB sep 0 (Lib.countB s sep) s).map Value.string).toArray 9) := Any.strings_Split Tryz.lays146 (by kernel_rfl) s sep m w hs hm h1
def Tryz.laysM146_ren : Go.Shelf.Ren := ⟨fun | 146 => 58 | 221 => 95 | 268 => 117 | 138 => 118 | 143 => 119 | 195 => 133 | 197 => 134 | 218 => 135 | 219 => 120 | 260 => 148 | 217 => 136 | 225 => 137 | 224 => 138 | 267 => 139 | 266 => 149 | 314 => 150 | n => n, fun | 9 => 9 | 31 => 71 | 3 => 3 | 4 => 4 | 0 => 0 | 105 => 170 | 21 => 21 | 5 => 5 | 46 => 130 | 119 => 188 | 139 => 191 | 138 => 190 | 146 => 182 | 51 => 181 | n => n, fun | 1 => 0 | 3 => 2 | 4 => 3 | n => n⟩
theorem Tryz.laysM146 : Go.Proofs.LaysM.n146 Tryz.prog Tryz.laysM146_ren := {
  mixed := by kernel_rfl
  f138 := Tryz.func118.trans (congrArg some (by kernel_rfl))
  f143 := Tryz.func119.trans (congrArg some (by kernel_rfl))
  f146 := Tryz.func58.trans (congrArg some (by kernel_rfl))
  f195 := Tryz.func133.trans (congrArg some (by kernel_rfl))
  f197 := Tryz.func134.trans (congrArg some (by kernel_rfl))
  f217 := Tryz.func136.trans (congrArg some (by kernel_rfl))
  f218 := Tryz.func135.trans (congrArg some (by kernel_rfl))
  f219 := Tryz.func120.trans (congrArg some (by kernel_rfl))
  f221 := Tryz.func95.trans (congrArg some (by kernel_rfl))
  f224 := Tryz.func138.trans (congrArg some (by kernel_rfl))
  f225 := Tryz.func137.trans (congrArg some (by kernel_rfl))
  f260 := Tryz.func148.trans (congrArg some (by kernel_rfl))
  f266 := Tryz.func149.trans (congrArg some (by kernel_rfl))
  f267 := Tryz.func139.trans (congrArg some (by kernel_rfl))
  f268 := Tryz.func117.trans (congrArg some (by kernel_rfl))
  f314 := Tryz.func150.trans (congrArg some (by kernel_rfl))
  t0 := Tryz.underlying0
  a0 := Tryz.isAgg0
  z0 := Tryz.sizeOf0
  v0 := Tryz.zeroValue0
  t3 := Tryz.underlying3
  a3 := Tryz.isAgg3
  z3 := Tryz.sizeOf3
  v3 := Tryz.zeroValue3
  t4 := Tryz.underlying4
  a4 := Tryz.isAgg4
  z4 := Tryz.sizeOf4
  v4 := Tryz.zeroValue4
  t5 := Tryz.underlying5
  a5 := Tryz.isAgg5
  z5 := Tryz.sizeOf5
  v5 := Tryz.zeroValue5
  t9 := Tryz.underlying9
  a9 := Tryz.isAgg9
  z9 := Tryz.sizeOf9
  v9 := Tryz.zeroValue9
  t21 := Tryz.underlying21
  a21 := Tryz.isAgg21
  z21 := Tryz.sizeOf21
  v21 := Tryz.zeroValue21
  t31 := Tryz.underlying71
  a31 := Tryz.isAgg71
  z31 := Tryz.sizeOf71
  v31 := Tryz.zeroValue71
  t46 := Tryz.underlying130
  a46 := Tryz.isAgg130
  z46 := Tryz.sizeOf130
  v46 := Tryz.zeroValue130
  t51 := Tryz.underlying181
  a51 := Tryz.isAgg181
  z51 := Tryz.sizeOf181
  v51 := Tryz.zeroValue181
  t105 := Tryz.underlying170
  a105 := Tryz.isAgg170
  z105 := Tryz.sizeOf170
  v105 := Tryz.zeroValue170
  t119 := Tryz.underlying188
  a119 := Tryz.isAgg188
  z119 := Tryz.sizeOf188
  t138 := Tryz.underlying190
  a138 := Tryz.isAgg190
  z138 := Tryz.sizeOf190
  v138 := Tryz.zeroValue190
  t139 := Tryz.underlying191
  a139 := Tryz.isAgg191
  z139 := Tryz.sizeOf191
  v139 := Tryz.zeroValue191
  t146 := Tryz.underlying182
  a146 := Tryz.isAgg182
  z146 := Tryz.sizeOf182
  v146 := Tryz.zeroValue182
  g1 := by kernel_rfl
  g3 := by kernel_rfl
  g4 := by kernel_rfl
  i0 := by kernel_rfl
  i3 := by kernel_rfl
  i4 := by kernel_rfl
  i5 := by kernel_rfl
  i9 := by kernel_rfl
  i21 := by kernel_rfl
  i31 := by kernel_rfl
  i46 := by kernel_rfl
  i51 := by kernel_rfl
  i105 := by kernel_rfl
  i138 := by kernel_rfl
  i139 := by kernel_rfl
  i146 := by kernel_rfl
  m1 := by kernel_rfl
  s1_3 := fun w h => Go.Proofs.cell_of_shapedOpen_int (zero := #[.int .i64 0]) (t := 3) h (of_decide_eq_true (by kernel_rfl)) (by kernel_rfl) rfl (by kernel_rfl) (by kernel_rfl) Tryz.underlying3
  m3 := by kernel_rfl
  m4 := by kernel_rfl }
open Go.RowKit Go.Lib in
theorem Tryz.strings_Split_shaped (s sep : ByteArray) (w : World) (h : w.ShapedOpen Tryz.prog) (hs : s.size < 4294967281) (h1 : 1 ≤ sep.size) :
    Calls Tryz.prog 58 #[.string s, .string sep] w fun e w' =>
      e = .returned (.slice (some ⟨w.heap.size, 0, none⟩) (Lib.countB s sep + 1) (Lib.countB s sep + 1)) ∧ w' = w.alloc (.cells ((Lib.splitB sep 0 (Lib.countB s sep) s).map Value.string).toArray 9) := Any.strings_Split_shaped Tryz.laysM146 s sep w h hs h1
def Tryz.lays197_ren : Go.Shelf.Ren := ⟨fun | 197 => 134 | 260 => 148 | n => n, fun | 9 => 9 | 21 => 21 | 3 => 3 | 4 => 4 | 5 => 5 | 105 => 170 | 119 => 188 | 0 => 0 | 46 => 130 | 139 => 191 | 138 => 190 | n => n, fun | 3 => 2 | 4 => 3 | n => n⟩
theorem Tryz.lays197 : Go.Proofs.Lays.n197 Tryz.prog Tryz.lays197_ren := {
  mixed := by kernel_rfl
  f197 := Tryz.func134.trans (congrArg some (by kernel_rfl))
  f260 := Tryz.func148.trans (congrArg some (by kernel_rfl))
  t0 := Tryz.underlying0
  a0 := Tryz.isAgg0
  z0 := Tryz.sizeOf0
  v0 := Tryz.zeroValue0
  t3 := Tryz.underlying3
  a3 := Tryz.isAgg3
  z3 := Tryz.sizeOf3
  v3 := Tryz.zeroValue3
  t4 := Tryz.underlying4
  a4 := Tryz.isAgg4
  z4 := Tryz.sizeOf4
  v4 := Tryz.zeroValue4
  t5 := Tryz.underlying5
  a5 := Tryz.isAgg5
  z5 := Tryz.sizeOf5
  v5 := Tryz.zeroValue5
  t9 := Tryz.underlying9
  a9 := Tryz.isAgg9
  z9 := Tryz.sizeOf9
  v9 := Tryz.zeroValue9
  t21 := Tryz.underlying21
  a21 := Tryz.isAgg21
  z21 := Tryz.sizeOf21
  v21 := Tryz.zeroValue21
  t46 := Tryz.underlying130
  a46 := Tryz.isAgg130
  z46 := Tryz.sizeOf130
  v46 := Tryz.zeroValue130
  t105 := Tryz.underlying170
  a105 := Tryz.isAgg170
  z105 := Tryz.sizeOf170
  v105 := Tryz.zeroValue170
  t119 := Tryz.underlying188
  a119 := Tryz.isAgg188
  z119 := Tryz.sizeOf188
  t138 := Tryz.underlying190
  a138 := Tryz.isAgg190
  z138 := Tryz.sizeOf190
  v138 := Tryz.zeroValue190
  t139 := Tryz.underlying191
  a139 := Tryz.isAgg191
  z139 := Tryz.sizeOf191
  v139 := Tryz.zeroValue191
  g3 := by kernel_rfl
  g4 := by kernel_rfl }
open Go.RowKit Go.Lib in
theorem Tryz.utf8_DecodeRuneInString_ascii (s : ByteArray) (x : UInt8) (w : World) (h0 : s.data.toList[0]? = some x) (hx : x.toNat < 128) :
    Calls Tryz.prog 134 #[.string s] w fun e w' => e = .returned (.tuple #[.int .i32 x.toNat, .int .i64 1]) ∧ w' = w := Any.utf8_DecodeRuneInString_ascii Tryz.lays197 s x w h0 hx
open Go.RowKit Go.Lib in
theorem Tryz.utf8_RuneCountInString_ascii (s : ByteArray) (w : World) (hs : s.size < 4294967281) (hascii : ∀ (j : Nat) b, s.data.toList[j]? = some b → b.toNat < 128) :
    Calls Tryz.prog 133 #[.string s] w fun e w' => e = .returned (.int .i64 s.size) ∧ w' = w.iter s s.size := Any.utf8_RuneCountInString_ascii Tryz.lays195 s w hs hascii
def Tryz.lays268_ren : Go.Shelf.Ren := ⟨fun | 268 => 117 | 195 => 133 | 197 => 134 | 260 => 148 | n => n, fun | 9 => 9 | 3 => 3 | 31 => 71 | 4 => 4 | 105 => 170 | 21 => 21 | 0 => 0 | 5 => 5 | 119 => 188 | 46 => 130 | 139 => 191 | 138 => 190 | n => n, fun | 3 => 2 | 4 => 3 | n => n⟩
theorem Tryz.lays268 : Go.Proofs.Lays.n268 Tryz.prog Tryz.lays268_ren := {
  mixed := by kernel_rfl
  f195 := Tryz.func133.trans (congrArg some (by kernel_rfl))
  f197 := Tryz.func134.trans (congrArg some (by kernel_rfl))
  f260 := Tryz.func148.trans (congrArg some (by kernel_rfl))
  f268 := Tryz.func117.trans (congrArg some (by kernel_rfl))
  t0 := Tryz.underlying0
  a0 := Tryz.isAgg0
  z0 := Tryz.sizeOf0
  v0 := Tryz.zeroValue0
  t3 := Tryz.underlying3
  a3 := Tryz.isAgg3
  z3 := Tryz.sizeOf3
  v3 := Tryz.zeroValue3
  t4 := Tryz.underlying4
  a4 := Tryz.isAgg4
  z4 := Tryz.sizeOf4
  v4 := Tryz.zeroValue4
  t5 := Tryz.underlying5
  a5 := Tryz.isAgg5
  z5 := Tryz.sizeOf5
  v5 := Tryz.zeroValue5
  t9 := Tryz.underlying9
  a9 := Tryz.isAgg9
  z9 := Tryz.sizeOf9
  v9 := Tryz.zeroValue9
  t21 := Tryz.underlying21
  a21 := Tryz.isAgg21
  z21 := Tryz.sizeOf21
  v21 := Tryz.zeroValue21
  t31 := Tryz.underlying71
  a31 := Tryz.isAgg71
  z31 := Tryz.sizeOf71
  v31 := Tryz.zeroValue71
  t46 := Tryz.underlying130
  a46 := Tryz.isAgg130
  z46 := Tryz.sizeOf130
  v46 := Tryz.zeroValue130
  t105 := Tryz.underlying170
  a105 := Tryz.isAgg170
  z105 := Tryz.sizeOf170
  v105 := Tryz.zeroValue170
  t119 := Tryz.underlying188
  a119 := Tryz.isAgg188
  z119 := Tryz.sizeOf188
  t138 := Tryz.underlying190
  a138 := Tryz.isAgg190
  z138 := Tryz.sizeOf190
  v138 := Tryz.zeroValue190
  t139 := Tryz.underlying191
  a139 := Tryz.isAgg191
  z139 := Tryz.sizeOf191
  v139 := Tryz.zeroValue191
  g3 := by kernel_rfl
  g4 := by kernel_rfl }
open Go.RowKit Go.Lib in
theorem Tryz.strings_explode_all (s : ByteArray) (n : Int) (w : World) (hn : n < 0) (hs : s.size < 4294967281) (hascii : ∀ (j : Nat) b, s.data.toList[j]? = some b → b.toNat < 128) :
    Calls Tryz.prog 117 #[.string s, .int .i64 n] w fun e w' =>
      e = .returned (.slice (some ⟨(w.iter s s.size).heap.size, 0, none⟩) s.size s.size) ∧ w' = (w.iter s s.size).alloc (.cells ((Lib.charsB s).map Value.string).toArray 9) := Any.strings_explode_all Tryz.lays268 (by kernel_rfl) s n w hn hs hascii
open Go.RowKit Go.Lib in
theorem Tryz.strings_genSplit_chars (s sep : ByteArray) (sv n : Int) (w : World) (h0 : sep.size = 0) (hn : n < 0) (hs : s.size < 4294967281) (hascii : ∀ (j : Nat) b, s.data.toList[j]? = some b → b.toNat < 128) :
    Calls Tryz.prog 95 #[.string s, .string sep, .int .i64 sv, .int .i64 n] w fun e w' =>
      e = .returned (.slice (some ⟨(w.iter s s.size).heap.size, 0, none⟩) s.size s.size) ∧ w' = (w.iter s s.size).alloc (.cells ((Lib.charsB s).map Value.string).toArray 9) := Any.strings_genSplit_chars Tryz.lays221 (by kernel_rfl) s sep sv n w h0 hn hs hascii
open Go.RowKit Go.Lib in
theorem Tryz.strings_Split_chars (s sep : ByteArray) (w : World) (h0 : sep.size = 0) (hs : s.size < 4294967281) (hascii : ∀ (j : Nat) b, s.data.toList[j]? = some b → b.toNat < 128) :
    Calls Tryz.prog 58 #[.string s, .string sep] w fun e w' =>
      e = .returned (.slice (some ⟨(w.iter s s.size).heap.size, 0, none⟩) s.size s.size) ∧ w' = (w.iter s s.size).alloc (.cells ((Lib.charsB s).map Value.string).toArray 9) := Any.strings_Split_chars Tryz.lays146 (by kernel_rfl) s sep w h0 hs hascii
def Tryz.lays260_ren : Go.Shelf.Ren := ⟨fun | 260 => 148 | n => n, fun | 9 => 9 | 21 => 21 | 3 => 3 | 4 => 4 | 5 => 5 | 119 => 188 | 0 => 0 | 46 => 130 | 139 => 191 | 138 => 190 | n => n, fun | 3 => 2 | 4 => 3 | n => n⟩
theorem Tryz.lays260 : Go.Proofs.Lays.n260 Tryz.prog Tryz.lays260_ren := {
  mixed := by kernel_rfl
  f260 := Tryz.func148.trans (congrArg some (by kernel_rfl))
  t0 := Tryz.underlying0
  a0 := Tryz.isAgg0
  z0 := Tryz.sizeOf0
  v0 := Tryz.zeroValue0
  t3 := Tryz.underlying3
  a3 := Tryz.isAgg3
  z3 := Tryz.sizeOf3
  v3 := Tryz.zeroValue3
  t4 := Tryz.underlying4
  a4 := Tryz.isAgg4
  z4 := Tryz.sizeOf4
  v4 := Tryz.zeroValue4
  t5 := Tryz.underlying5
  a5 := Tryz.isAgg5
  z5 := Tryz.sizeOf5
  v5 := Tryz.zeroValue5
  t9 := Tryz.underlying9
  a9 := Tryz.isAgg9
  z9 := Tryz.sizeOf9
  v9 := Tryz.zeroValue9
  t21 := Tryz.underlying21
  a21 := Tryz.isAgg21
  z21 := Tryz.sizeOf21
  v21 := Tryz.zeroValue21
  t46 := Tryz.underlying130
  a46 := Tryz.isAgg130
  z46 := Tryz.sizeOf130
  v46 := Tryz.zeroValue130
  t119 := Tryz.underlying188
  a119 := Tryz.isAgg188
  z119 := Tryz.sizeOf188
  t138 := Tryz.underlying190
  a138 := Tryz.isAgg190
  z138 := Tryz.sizeOf190
  v138 := Tryz.zeroValue190
  t139 := Tryz.underlying191
  a139 := Tryz.isAgg191
  z139 := Tryz.sizeOf191
  v139 := Tryz.zeroValue191
  g3 := by kernel_rfl
  g4 := by kernel_rfl }
open Go.RowKit Go.Lib in
theorem Tryz.utf8_decodeRuneInStringSlow (s : ByteArray) (w : World) (hT : Lib.Utf8Tabs 2 3 w) :
    Calls Tryz.prog 148 #[.string s] w fun e w' => e = .returned (.tuple #[.int .i32 (Lib.decodeGo s).1, .int .i64 (Lib.decodeGo s).2]) ∧ Below w.heap.size w w' := Any.utf8_decodeRuneInStringSlow Tryz.lays260 s w hT
open Go.RowKit Go.Lib in
theorem Tryz.utf8_DecodeRuneInString (s : ByteArray) (w : World) (hT : Lib.Utf8Tabs 2 3 w) :
    Calls Tryz.prog 134 #[.string s] w fun e w' => e = .returned (.tuple #[.int .i32 (Lib.decodeGo s).1, .int .i64 (Lib.decodeGo s).2]) ∧ Below w.heap.size w w' := Any.utf8_DecodeRuneInString Tryz.lays197 s w hT
def Tryz.lays108_ren : Go.Shelf.Ren := ⟨fun | 108 => 129 | n => n, fun | 28 => 24 | 3 => 3 | 0 => 0 | 4 => 4 | n => n, fun | n => n⟩
theorem Tryz.lays108 : Go.Proofs.Lays.n108 Tryz.prog Tryz.lays108_ren := {
  mixed := by kernel_rfl
  f108 := Tryz.func129.trans (congrArg some (by kernel_rfl))
  t0 := Tryz.underlying0
  a0 := Tryz.isAgg0
  z0 := Tryz.sizeOf0
  v0 := Tryz.zeroValue0
  t3 := Tryz.underlying3
  a3 := Tryz.isAgg3
  z3 := Tryz.sizeOf3
  v3 := Tryz.zeroValue3
  t4 := Tryz.underlying4
  a4 := Tryz.isAgg4
  z4 := Tryz.sizeOf4
  v4 := Tryz.zeroValue4
  t28 := Tryz.underlying24
  a28 := Tryz.isAgg24
  z28 := Tryz.sizeOf24
  v28 := Tryz.zeroValue24 }
open Go.Lib in
theorem Tryz.slices_Index_int (b off n c : Nat) (zs : List Int) (x : Int) (w : World) (hz : n ≤ zs.length) (hbig : n ≤ 9223372036854775807) (hc : ∀ j, j < zs.length → w.cell? ⟨b, off + j, none⟩ = some (.int .i64 (zs.getD j 0))) :
    Calls Tryz.prog 129 #[.slice (some ⟨b, off, none⟩) n c, .int .i64 x] w fun e w' => e = .returned (.int .i64 (Lib.idxOf (zs.take n) x)) ∧ w' = w := Any.slices_Index_int Tryz.lays108 b off n c zs x w hz hbig hc
open Go.Lib in
theorem Tryz.slices_Index_int_empty (a : Option Addr) (c : Nat) (x : Int) (w : World) :
    Calls Tryz.prog 129 #[.slice a 0 c, .int .i64 x] w fun e w' => e = .returned (.int .i64 (Lib.idxOf [] x)) ∧ w' = w := Any.slices_Index_int_empty Tryz.lays108 a c x w
def Tryz.lays107_ren : Go.Shelf.Ren := ⟨fun | 107 => 108 | 108 => 129 | n => n, fun | 28 => 24 | 3 => 3 | 4 => 4 | 0 => 0 | n => n, fun | n => n⟩
theorem Tryz.lays107 : Go.Proofs.Lays.n107 Tryz.prog Tryz.lays107_ren := {
  mixed := by kernel_rfl
  f107 := Tryz.func108.trans (congrArg some (by kernel_rfl))
  f108 := Tryz.func129.trans (congrArg some (by kernel_rfl))
  t0 := Tryz.underlying0
  a0 := Tryz.isAgg0
  z0 := Tryz.sizeOf0
  v0 := Tryz.zeroValue0
  t3 := Tryz.underlying3
  a3 := Tryz.isAgg3
  z3 := Tryz.sizeOf3
  v3 := Tryz.zeroValue3
  t4 := Tryz.underlying4
  a4 := Tryz.isAgg4
  z4 := Tryz.sizeOf4
  v4 := Tryz.zeroValue4
  t28 := Tryz.underlying24
  a28 := Tryz.isAgg24
  z28 := Tryz.sizeOf24
  v28 := Tryz.zeroValue24 }
open Go.Lib in
theorem Tryz.slices_Contains_int (b off n c : Nat) (zs : List Int) (x : Int) (w : World) (hz : n ≤ zs.length) (hbig : n ≤ 9223372036854775807) (hc : ∀ j, j < zs.length → w.cell? ⟨b, off + j, none⟩ = some (.int .i64 (zs.getD j 0))) :
    Calls Tryz.prog 108 #[.slice (some ⟨b, off, none⟩) n c, .int .i64 x] w fun e w' => e = .returned (.bool ((zs.take n).contains x)) ∧ w' = w := Any.slices_Contains_int Tryz.lays107 b off n c zs x w hz hbig hc
open Go.Lib in
theorem Tryz.slices_Contains_int_empty (a : Option Addr) (c : Nat) (x : Int) (w : World) :
    Calls Tryz.prog 108 #[.slice a 0 c, .int .i64 x] w fun e w' => e = .returned (.bool false) ∧ w' = w := Any.slices_Contains_int_empty Tryz.lays107 a c x w
def Tryz.lays109_ren : Go.Shelf.Ren := ⟨fun | 109 => 109 | n => n, fun | 31 => 71 | 9 => 9 | 3 => 3 | 0 => 0 | 4 => 4 | n => n, fun | n => n⟩
theorem Tryz.lays109 : Go.Proofs.Lays.n109 Tryz.prog Tryz.lays109_ren := {
  mixed := by kernel_rfl
  f109 := Tryz.func109.trans (congrArg some (by kernel_rfl))
  t0 := Tryz.underlying0
  a0 := Tryz.isAgg0
  z0 := Tryz.sizeOf0
  v0 := Tryz.zeroValue0
  t3 := Tryz.underlying3
  a3 := Tryz.isAgg3
  z3 := Tryz.sizeOf3
  v3 := Tryz.zeroValue3
  t4 := Tryz.underlying4
  a4 := Tryz.isAgg4
  z4 := Tryz.sizeOf4
  v4 := Tryz.zeroValue4
  t9 := Tryz.underlying9
  a9 := Tryz.isAgg9
  z9 := Tryz.sizeOf9
  v9 := Tryz.zeroValue9
  t31 := Tryz.underlying71
  a31 := Tryz.isAgg71
  z31 := Tryz.sizeOf71
  v31 := Tryz.zeroValue71 }
open Go.Lib in
theorem Tryz.slices_Index_string (b off n c : Nat) (zs : List ByteArray) (x : ByteArray) (w : World) (hz : n ≤ zs.length) (hbig : n ≤ 9223372036854775807) (hc : ∀ j, j < zs.length → w.cell? ⟨b, off + j, none⟩ = some (.string (zs.getD j ByteArray.empty))) :
    Calls Tryz.prog 109 #[.slice (some ⟨b, off, none⟩) n c, .string x] w fun e w' => e = .returned (.int .i64 (Lib.idxOfS (zs.take n) x)) ∧ w' = w := Any.slices_Index_string Tryz.lays109 b off n c zs x w hz hbig hc
open Go.Lib in
theorem Tryz.slices_Index_string_empty (a : Option Addr) (c : Nat) (x : ByteArray) (w : World) :
    Calls Tryz.prog 109 #[.slice a 0 c, .string x] w fun e w' => e = .returned (.int .i64 (Lib.idxOfS [] x)) ∧ w' = w := Any.slices_Index_string_empty Tryz.lays109 a c x w
def Tryz.lays110_ren : Go.Shelf.Ren := ⟨fun | 110 => 75 | 109 => 109 | n => n, fun | 31 => 71 | 9 => 9 | 4 => 4 | 3 => 3 | 0 => 0 | n => n, fun | n => n⟩
theorem Tryz.lays110 : Go.Proofs.Lays.n110 Tryz.prog Tryz.lays110_ren := {
  mixed := by kernel_rfl
  f109 := Tryz.func109.trans (congrArg some (by kernel_rfl))
  f110 := Tryz.func75.trans (congrArg some (by kernel_rfl))
  t0 := Tryz.underlying0
  a0 := Tryz.isAgg0
  z0 := Tryz.sizeOf0
  v0 := Tryz.zeroValue0
  t3 := Tryz.underlying3
  a3 := Tryz.isAgg3
  z3 := Tryz.sizeOf3
  v3 := Tryz.zeroValue3
  t4 := Tryz.underlying4
  a4 := Tryz.isAgg4
  z4 := Tryz.sizeOf4
  v4 := Tryz.zeroValue4
  t9 := Tryz.underlying9
  a9 := Tryz.isAgg9
  z9 := Tryz.sizeOf9
  v9 := Tryz.zeroValue9
  t31 := Tryz.underlying71
  a31 := Tryz.isAgg71
  z31 := Tryz.sizeOf71
  v31 := Tryz.zeroValue71 }
open Go.Lib in
theorem Tryz.slices_Contains_string (b off n c : Nat) (zs : List ByteArray) (x : ByteArray) (w : World) (hz : n ≤ zs.length) (hbig : n ≤ 9223372036854775807) (hc : ∀ j, j < zs.length → w.cell? ⟨b, off + j, none⟩ = some (.string (zs.getD j ByteArray.empty))) :
    Calls Tryz.prog 75 #[.slice (some ⟨b, off, none⟩) n c, .string x] w fun e w' => e = .returned (.bool (Lib.containsS (zs.take n) x)) ∧ w' = w := Any.slices_Contains_string Tryz.lays110 b off n c zs x w hz hbig hc
open Go.Lib in
theorem Tryz.slices_Contains_string_empty (a : Option Addr) (c : Nat) (x : ByteArray) (w : World) :
    Calls Tryz.prog 75 #[.slice a 0 c, .string x] w fun e w' => e = .returned (.bool false) ∧ w' = w := Any.slices_Contains_string_empty Tryz.lays110 a c x w
def Tryz.laysNm216_ren : Go.Shelf.Ren := ⟨fun | 16 => 76 | n => n, fun | 24 => 71 | 9 => 9 | 4 => 4 | n => n, fun | n => n⟩
theorem Tryz.laysNm216 : Go.Proofs.Lays2.n16 Tryz.prog Tryz.laysNm216_ren := {
  mixed := by kernel_rfl
  f16 := Tryz.func76.trans (congrArg some (by kernel_rfl))
  t4 := Tryz.underlying4
  a4 := Tryz.isAgg4
  z4 := Tryz.sizeOf4
  v4 := Tryz.zeroValue4
  t9 := Tryz.underlying9
  a9 := Tryz.isAgg9
  z9 := Tryz.sizeOf9
  v9 := Tryz.zeroValue9
  t24 := Tryz.underlying71
  a24 := Tryz.isAgg71
  z24 := Tryz.sizeOf71
  v24 := Tryz.zeroValue71
  i9 := by kernel_rfl }
open Go.RowKit Go.Lib in
theorem Tryz.slices_Clone_string (b off n c : Nat) (zs : List ByteArray) (w : World) (hz : n ≤ zs.length) (hbig : n * 16 ≤ 140737488355328) (hc : ∀ j, j < zs.length → w.cell? ⟨b, off + j, none⟩ = some (.string (zs.getD j ByteArray.empty))) :
    Calls Tryz.prog 76 #[.slice (some ⟨b, off, none⟩) n c] w fun e w' => ∃ v', e = .returned v' ∧ w'.ownsRow w.heap.size 9 1 v' n ((zs.take n).map (Value.string)) ∧ v' ≠ .slice none 0 0 ∧ Below w.heap.size w w' := Any.slices_Clone_string Tryz.laysNm216 b off n c zs w hz hbig hc
open Go.RowKit Go.Lib in
theorem Tryz.slices_Clone_string_nil (n c : Nat) (w : World) :
    Calls Tryz.prog 76 #[.slice none n c] w fun e w' => e = .returned (.slice none 0 0) ∧ w' = w := Any.slices_Clone_string_nil Tryz.laysNm216 n c w
open Go.RowKit Go.Lib in
theorem Tryz.slices_Clone_string_zero (a : Addr) (c : Nat) (w : World) :
    Calls Tryz.prog 76 #[.slice (some a) 0 c] w fun e w' => ∃ v', e = .returned v' ∧ w'.ownsRow w.heap.size 9 1 v' 0 [] ∧ v' ≠ .slice none 0 0 ∧ Below w.heap.size w w' := Any.slices_Clone_string_zero Tryz.laysNm216 a c w
def Tryz.laysSlE041_f76_ren : Go.Shelf.Ren := ⟨fun | 41 => 76 | n => n, fun | 22 => 71 | 23 => 9 | 4 => 4 | n => n, fun | n => n⟩
theorem Tryz.laysSlE041_f76 : Go.Proofs.SlLaysE0.n41 Tryz.prog Tryz.laysSlE041_f76_ren := {
  mixed := by kernel_rfl
  f41 := ⟨Tryz.f76.name, by decide, Tryz.func76.trans (congrArg some (by kernel_rfl))⟩
  t4 := Tryz.underlying4
  a4 := Tryz.isAgg4
  z4 := Tryz.sizeOf4
  v4 := Tryz.zeroValue4
  t22 := Tryz.underlying71
  a22 := Tryz.isAgg71
  z22 := Tryz.sizeOf71
  v22 := Tryz.zeroValue71 }
open Go.RowKit Go.Lib in
theorem Tryz.slices_Clone (i0 : TypeInfo) (z : Value) (size bytes : Nat) (hi : Tryz.prog.info? 9 = some i0) (hz0 : i0.zero = some z) (hz1 : i0.size = size) (hz2 : i0.bytes = bytes) (hzs : z.cells.size = size) (hsz : 0 < size) (z23 : ∀ w, (Go.sizeOf 9).run Tryz.prog w = .ok size w) (b off n c : Nat) (news : List Value) (w : World) (hl : news.length = n * size) (hn : n ≤ maxLen) (hbig : n * bytes ≤ 140737488355328) (hc : ∀ j u, news[j]? = some u → w.cell? ⟨b, off + j, none⟩ = some u) (h1 : ∀ u ∈ news, u.oneCell' = true) :
    Calls Tryz.prog 76 #[.slice (some ⟨b, off, none⟩) n c] w fun e w' => ∃ v', e = .returned v' ∧ w'.ownsRow w.heap.size 9 size v' n news ∧ v' ≠ .slice none 0 0 ∧ Below w.heap.size w w' := AnyE.slices_Clone Tryz.laysSlE041_f76 i0 z size bytes hi hz0 hz1 hz2 hzs hsz z23 b off n c news w hl hn hbig hc h1
open Go.RowKit Go.Lib in
theorem Tryz.slices_Clone_nil (n c : Nat) (w : World) :
    Calls Tryz.prog 76 #[.slice none n c] w fun e w' => e = .returned (.slice none 0 0) ∧ w' = w := AnyE.slices_Clone_nil Tryz.laysSlE041_f76 n c w
end Go.Proofs

/- The pieces of a text between signs: what the library's Cut and Split tell, by one plain function. Plain theorems: no condition. -/
namespace Go.Proofs.YteoihdkaoipocaaGreatDoor
open Go.RowKit

def ofL (l : List UInt8) : ByteArray := ⟨l.toArray⟩
theorem ofL_toL (l : List UInt8) : (ofL l).data.toList = l := by simp [ofL]
theorem ofL_of (s : ByteArray) : ofL s.data.toList = s := rfl
theorem ofL_inj {a b : List UInt8} (h : ofL a = ofL b) : a = b := by rw [← ofL_toL a, h, ofL_toL]
theorem ofL_size (l : List UInt8) : (ofL l).size = l.length := rfl
theorem toL_inj {a b : ByteArray} (h : a.data.toList = b.data.toList) : a = b := by rw [← ofL_of a, h, ofL_of]
theorem toL_len (s : ByteArray) : s.data.toList.length = s.size := rfl

/-- a text's pieces between signs -/
def cutAll (x : UInt8) : List UInt8 → List (List UInt8)
  | [] => [[]]
  | b :: l => if b = x then [] :: cutAll x l else (b :: (cutAll x l).headD []) :: (cutAll x l).tail
theorem cutAll_ne (x : UInt8) (l : List UInt8) : cutAll x l ≠ [] := by
  cases l with
  | nil => simp [cutAll]
  | cons b l => unfold cutAll; split <;> simp
theorem cutAll_no {x : UInt8} {l : List UInt8} (h : x ∉ l) : cutAll x l = [l] := by
  induction l with
  | nil => rfl
  | cons b l ih =>
    have h1 : ¬ b = x := fun e => h (by rw [e]; exact List.mem_cons_self ..)
    have h2 := ih (fun e => h (List.mem_cons_of_mem _ e))
    unfold cutAll
    rw [if_neg h1, h2]; rfl
theorem cutAll_hit {x : UInt8} {a r : List UInt8} (h : x ∉ a) : cutAll x (a ++ x :: r) = a :: cutAll x r := by
  induction a with
  | nil => show cutAll x (x :: r) = _; rw [cutAll, if_pos rfl]
  | cons b a ih =>
    have h1 : ¬ b = x := fun e => h (by rw [e]; exact List.mem_cons_self ..)
    have h2 := ih (fun e => h (List.mem_cons_of_mem _ e))
    show cutAll x (b :: (a ++ x :: r)) = _
    rw [cutAll, if_neg h1, h2]; rfl
theorem first_of (x : UInt8) (l : List UInt8) : x ∉ l ∨ ∃ a r, l = a ++ x :: r ∧ x ∉ a := by
  induction l with
  | nil => exact .inl (by simp)
  | cons b l ih =>
    by_cases e : b = x
    · exact .inr ⟨[], l, by rw [e]; rfl, by simp⟩
    · rcases ih with h | ⟨a, r, h1, h2⟩
      · exact .inl (by simp [h]; exact fun c => e c.symm)
      · exact .inr ⟨b :: a, r, by rw [h1]; rfl, by simp [h2]; exact fun c => e c.symm⟩

theorem index_no {x : UInt8} {l : List UInt8} (h : x ∉ l) : Lib.index l [x] = -1 := by
  induction l with
  | nil => rfl
  | cons b l ih =>
    have h1 : ¬ x = b := fun e => h (by rw [e]; exact List.mem_cons_self ..)
    have h2 := ih (fun e => h (List.mem_cons_of_mem _ e))
    unfold Lib.index
    have e : [x].isPrefixOf (b :: l) = false := by simp [List.isPrefixOf, h1]
    rw [e, h2]; rfl
theorem index_hit {x : UInt8} {a r : List UInt8} (h : x ∉ a) : Lib.index (a ++ x :: r) [x] = a.length := by
  induction a with
  | nil =>
    show Lib.index (x :: r) [x] = _
    unfold Lib.index
    have e : [x].isPrefixOf (x :: r) = true := by simp [List.isPrefixOf]
    rw [e]; rfl
  | cons b a ih =>
    have h1 : ¬ x = b := fun e => h (by rw [e]; exact List.mem_cons_self ..)
    have h2 := ih (fun e => h (List.mem_cons_of_mem _ e))
    show Lib.index (b :: (a ++ x :: r)) [x] = _
    unfold Lib.index
    have e : [x].isPrefixOf (b :: (a ++ x :: r)) = false := by simp [List.isPrefixOf, h1]
    rw [e, h2]
    have e2 : ((a.length : Int) == -1) = false := by simp only [beq_eq_false_iff_ne]; omega
    simp [e2]
theorem cut_no {x : UInt8} {l : List UInt8} (h : x ∉ l) : Lib.cut l [x] = (l, [], false) := by
  unfold Lib.cut; rw [index_no h]; rfl
theorem cut_hit {x : UInt8} {a r : List UInt8} (h : x ∉ a) : Lib.cut (a ++ x :: r) [x] = (a, r, true) := by
  unfold Lib.cut
  rw [index_hit h, if_pos (by omega)]
  simp

theorem splitB_cutAll (x : UInt8) : ∀ (n : Nat) (s : ByteArray), s.size ≤ n → Lib.splitB (ofL [x]) 0 (Lib.countB s (ofL [x])) s = (cutAll x s.data.toList).map ofL ∧ Lib.countB s (ofL [x]) + 1 = (cutAll x s.data.toList).length := by
  intro n
  induction n with
  | zero =>
    intro s hs
    have h0 : s.data.toList = [] := List.length_eq_zero_iff.1 (by rw [toL_len]; omega)
    have hi : Lib.indexB s (ofL [x]) = -1 := by show Lib.index s.data.toList [x] = -1; exact index_no (by rw [h0]; simp)
    rw [Lib.countB_miss s _ hi, Lib.splitB_zero, h0]
    exact ⟨by rw [← ofL_of s, h0]; rfl, rfl⟩
  | succ n ih =>
    intro s hs
    rcases first_of x s.data.toList with h | ⟨a, r, h1, h2⟩
    · have hi : Lib.indexB s (ofL [x]) = -1 := by show Lib.index s.data.toList [x] = -1; exact index_no h
      rw [Lib.countB_miss s _ hi, Lib.splitB_zero, cutAll_no h]
      exact ⟨rfl, rfl⟩
    · have hi : Lib.indexB s (ofL [x]) = (a.length : Nat) := by show Lib.index s.data.toList [x] = _; rw [h1]; exact index_hit h2
      have hr : s.extract (a.length + (ofL [x]).size) s.size = ofL r := toL_inj (by
        rw [Lib.extract_to_end, ofL_toL, h1, ofL_size]
        show List.drop (a.length + 1) (a ++ x :: r) = r
        rw [List.drop_append]; simp)
      have ha : s.extract 0 (a.length + 0) = ofL a := toL_inj (by rw [Lib.extract_from_zero, ofL_toL, h1]; simp)
      have hl : (ofL r).size ≤ n := by
        have : s.data.toList.length = a.length + (r.length + 1) := by rw [h1]; simp
        rw [toL_len] at this
        rw [ofL_size]; omega
      obtain ⟨i1, i2⟩ := ih (ofL r) hl
      rw [ofL_toL] at i1 i2
      have hc := Lib.countB_hit s (ofL [x]) a.length (Nat.le_refl _) hi
      rw [hr] at hc
      rw [hc, Nat.add_comm 1, Lib.splitB_hit _ _ _ _ _ hi, hr, ha, i1, h1, cutAll_hit h2]
      exact ⟨rfl, by simp [← i2]⟩

/-- the library's variable that the search reads holds a number -/
def Mx (w : World) : Prop := ∃ m, w.cell? ⟨0, 0, none⟩ = some (.int .i64 m)
theorem Mx.pos {w : World} (h : Mx w) : 0 < w.heap.size := by
  obtain ⟨m, h⟩ := h
  simp only [World.cell?] at h
  cases hx : w.heap[0]? with
  | none => simp [hx] at h
  | some o => exact (Array.getElem?_eq_some_iff.1 hx).1
theorem Mx.below {w w' : World} {B : Nat} (h : Mx w) (hb : Below B w w') (hB : 0 < B) : Mx w' := by
  obtain ⟨m, h⟩ := h
  exact ⟨m, (below_cell hb hB).trans h⟩
theorem Mx.low {w w' : World} (h : Mx w) (hb : Below w.heap.size w w') : Mx w' := h.below hb h.pos
theorem cut_call (s : ByteArray) (x : UInt8) (w : World) (h : Mx w) (hs : s.size < 4294967281) :
    Calls Tryz.prog 59 #[.string s, .string (ofL [x])] w fun e w' => (∃ a r b, e = .returned (.tuple #[.string (ofL a), .string (ofL r), .bool b]) ∧ ((b = false ∧ a = s.data.toList ∧ r = [] ∧ x ∉ a) ∨ (b = true ∧ s.data.toList = a ++ x :: r ∧ x ∉ a))) ∧ ∃ n, w' = w.drewN n := by
  obtain ⟨m, hm⟩ := h
  refine (Tryz.strings_Cut s (ofL [x]) m w hs hm).mono fun e w' ⟨he, hn⟩ => ?_
  refine ⟨?_, hn⟩
  rw [ofL_toL] at he
  rcases first_of x s.data.toList with hc | ⟨a, r, h1, h2⟩
  · rw [cut_no hc] at he
    exact ⟨s.data.toList, [], false, he, .inl ⟨rfl, rfl, rfl, hc⟩⟩
  · rw [h1, cut_hit h2] at he
    exact ⟨a, r, true, he, .inr ⟨rfl, h1, h2⟩⟩
theorem split_call (s : ByteArray) (x : UInt8) (w : World) (h : Mx w) (hs : s.size < 4294967281) :
    Calls Tryz.prog 58 #[.string s, .string (ofL [x])] w fun e w' => e = .returned (.slice (some ⟨w.heap.size, 0, none⟩) (cutAll x s.data.toList).length (cutAll x s.data.toList).length) ∧ w' = w.alloc (.cells (((cutAll x s.data.toList).map ofL).map Value.string).toArray 9) := by
  obtain ⟨m, hm⟩ := h
  refine (Tryz.strings_Split s (ofL [x]) m w hs hm (Nat.le_refl _)).mono fun e w' ⟨he, hn⟩ => ?_
  obtain ⟨i1, i2⟩ := splitB_cutAll x s.size s (Nat.le_refl _)
  rw [i2] at he
  rw [i1] at hn
  exact ⟨he, hn⟩
end Go.Proofs.YteoihdkaoipocaaGreatDoor

/- vec.Read: the amount of a text. -/
namespace Go.Proofs.YteoihdkaoipocaaGreatDoor
open Go.RowKit

def pnum (ps : List (List UInt8)) (j : Nat) : Int := numOf (ofL (ps.getD j [])) 10
/-- the four numbers of a text's pieces -/
def vecP (ps : List (List UInt8)) : V4 := ⟨pnum ps 0, pnum ps 1, pnum ps 2, pnum ps 3⟩
/-- what is read: the amount, and the error -/
def vecOf (s : ByteArray) : V4 × Int := if (cutAll 44 s.data.toList).length = 4 then (vecP (cutAll 44 s.data.toList)).told 11 else (V4.zero, 11)
theorem vecOf_no {s : ByteArray} (h : (cutAll 44 s.data.toList).length ≠ 4) : vecOf s = (V4.zero, 11) := if_neg h
theorem getD_app {α : Type} (a : List α) (x : α) (b : List α) (d : α) (k : Nat) (hk : a.length = k) : (a ++ x :: b).getD k d = x := by
  subst hk; simp [List.getD]
theorem getD_old {α : Type} (a b : List α) (d : α) {j : Nat} (hj : j < a.length) : (a ++ b).getD j d = a.getD j d := by
  simp [List.getD, List.getElem?_append_left hj]
structure VrW (w : World) (s0 : ByteArray) (k : Nat) (done : List (List UInt8)) (rest : List UInt8) (f : Nat → Int) (wr : World) : Prop where
  low : Below w.heap.size w wr
  mx : Mx wr
  res : wr.heap[w.heap.size]? = some (.cells V4.zero.cells 23 (0, 0))
  arr : wr.heap[w.heap.size + 1]? = some (.cells #[.int .i64 (f 0), .int .i64 (f 1), .int .i64 (f 2), .int .i64 (f 3)] 23 (0, 0))
  val : ∀ j, j < k → f j = pnum done j
  len : done.length = k
  cut : if k < 4 then cutAll 44 s0.data.toList = done ++ cutAll 44 rest else cutAll 44 s0.data.toList = done
  rlen : rest.length ≤ s0.size
theorem cutAll_pos (x : UInt8) (l : List UInt8) : 1 ≤ (cutAll x l).length := by
  cases h : cutAll x l with
  | nil => exact absurd h (cutAll_ne _ _)
  | cons p ps => simp

theorem below_dn (B : Nat) (w : World) (n : Nat) : Below B w (w.drewN n) := ⟨rfl, rfl, rfl, Nat.le_refl _, fun _ _ => rfl⟩
theorem below_drewT {w w' : World} {n : Nat} (h : Below (w.drewN n).heap.size (w.drewN n) w') : Below w.heap.size w w' := (below_dn _ _ _).trans h

set_option maxRecDepth 100000 in
set_option maxHeartbeats 3200000 in
theorem vread_any (s0 : ByteArray) (w : World) (hm : Mx w) (hs : s0.size ≤ 4294967280) : Calls Tryz.prog 68 #[.string s0] w fun e w' => e = .returned (.tuple #[(vecOf s0).1.val, .int .i64 (vecOf s0).2]) ∧ Below w.heap.size w w' := by
  have hpos := hm.pos
  have h0 : VrW w s0 0 [] s0.data.toList (fun _ => 0) ((w.alloc (.cells V4.zero.cells 23 (0, 0))).alloc (.cells V4.zero.cells 23 (0, 0))) :=
    ⟨((Below.refl _ _).alloc (Nat.le_refl _) _).alloc (by simp) _, hm.low (((Below.refl _ _).alloc (Nat.le_refl _) _).alloc (by simp) _), blk_old _ (blk_new _ _), blk_at _ _ (by simp), fun j hj => absurd hj (Nat.not_lt_zero _), rfl, by simp, Nat.le_refl _⟩
  replace h0 := Lib.hid h0; replace hm := Lib.hid hm; replace hpos := Lib.hid hpos
  go_enter Tryz.func68, Tryz.ntmps68
  go_wp2
  go_loopw [0, 5, 6, 7, 8, 9] (fun sv _ _ _ _ i wr => ∃ (k : Nat) (done : List (List UInt8)) (rest : List UInt8) (f : Nat → Int), k ≤ 4 ∧ i = .int .i64 k ∧ sv = .string (ofL rest) ∧ Hid (VrW w s0 k done rest f wr)) (fun _ _ _ _ _ i _ => 4 - (intOf i).toNat)
  case atStart => exact ⟨0, [], s0.data.toList, fun _ => 0, by omega, rfl, rfl, h0.out⟩
  case round =>
    obtain ⟨k, done, rest, f, hk, rfl, rfl, hV⟩ := hrel
    by_cases h4 : k < 4
    · have hi : (k : Int) < 4 := by omega
      have hct := cut_call (ofL rest) 44 wr hV.out.mx (by rw [ofL_size]; have := hV.out.rlen; omega)
      rw [ofL_toL] at hct
      have hcV := hV.out.cut
      rw [if_pos h4] at hcV
      replace hct := Lib.hid hct; replace hcV := Lib.hid hcV
      go_wp2_with fail
      refine hct.out.mono ?_
      rintro e w1 ⟨⟨a, r, b, rfl, hab⟩, nd, rfl⟩
      have hal : a.length ≤ s0.size ∧ r.length ≤ s0.size := by
        have := hV.out.rlen
        rcases hab with ⟨_, e1, e2, _⟩ | ⟨_, e1, _⟩
        · rw [e1, e2]; exact ⟨this, by simp⟩
        · have e := congrArg List.length e1; simp at e; omega
      by_cases h3 : k < 3
      · have d3 : decide ((k : Int) < 3) = true := decide_eq_true (by omega)
        have d3' : decide (k < 3) = true := decide_eq_true h3
        rcases hab with ⟨rfl, e1, e2, e3⟩ | ⟨rfl, e1, e3⟩
        · have hlen : (cutAll 44 s0.data.toList).length ≠ 4 := by
            rw [hcV.out, ← e1, cutAll_no e3]; simp [hV.out.len]; omega
          replace hlen := Lib.hid hlen; replace e1 := Lib.hid e1; replace e2 := Lib.hid e2; replace e3 := Lib.hid e3; replace hal := Lib.hid hal
          have hz := vecOf_no hlen.out
          have cx := blk_cell hV.out.res
          have fx := blk_free hV.out.res
          have hlow := hV.out.low
          replace hz := Lib.hid hz; replace hlow := Lib.hid hlow
          go_wp2
          refine bodyPost_ret (v := .tuple #[V4.zero.val, .int .i64 11]) (by simp [results, Tryz.results68, go_sem, cx, V4.zero]) rfl ⟨by rw [hz.out], ?_⟩
          exact (((((hlow.out.trans (below_dn _ _ _)).setCell (Nat.le_refl _) _).setCell (Nat.le_refl _) _).setCell (Nat.le_refl _) _).setCell (Nat.le_refl _) _)
        · have hcut : if k + 1 < 4 then cutAll 44 s0.data.toList = (done ++ [a]) ++ cutAll 44 r else cutAll 44 s0.data.toList = done ++ [a] := by
            rw [if_pos (by omega), hcV.out, e1, cutAll_hit e3]; simp
          have hrl : r.length ≤ s0.size := hal.2
          have hal2 := hal.1
          replace hcut := Lib.hid hcut; replace e1 := Lib.hid e1; replace e3 := Lib.hid e3; replace hal := Lib.hid hal; replace hrl := Lib.hid hrl
          clear hal
          have hal := hal2
          replace hal := Lib.hid hal
          clear hal2
          have hva := vnum_any (ofL a) (wr.drewN nd) (by rw [ofL_size]; have := hal.out; have : maxLen = 9223372036854775807 := rfl; omega)
          replace hva := Lib.hid hva
          go_wp2_with fail
          refine hva.out.mono ?_
          rintro e w2 ⟨rfl, hb2⟩
          have hb2' : Below wr.heap.size wr w2 := below_drewT hb2
          have g := blk_below hb2' hV.out.arr (blk_lt hV.out.arr)
          have g2 := blk_below hb2' hV.out.res (blk_lt hV.out.res)
          have cc := blk_cell g
          have ff := blk_free g
          have hlow2 := hV.out.low.trans (hb2'.mono hV.out.low.size)
          have hmx2 := hV.out.mx.low hb2'
          have hpos := hV.out.mx.pos
          obtain ⟨f', hf1, hf2⟩ : ∃ f' : Nat → Int, Hid (∀ j, j < k + 1 → f' j = pnum (done ++ [a]) j) ∧ Hid (∀ j, f' j = if j = k then numOf (ofL a) 10 else f j) := by
            refine ⟨fun j => if j = k then numOf (ofL a) 10 else f j, fun j hj => ?_, fun _ => rfl⟩
            show (if j = k then numOf (ofL a) 10 else f j) = pnum (done ++ [a]) j
            split
            · next h => rw [h]; unfold pnum; rw [getD_app _ _ _ _ _ hV.out.len]
            · rw [hV.out.val j (by omega)]; unfold pnum; rw [getD_old _ _ _ (by rw [hV.out.len]; omega)]
          replace hb2 := Lib.hid hb2; replace hb2' := Lib.hid hb2'; replace g := Lib.hid g; replace g2 := Lib.hid g2; replace hlow2 := Lib.hid hlow2; replace hmx2 := Lib.hid hmx2; replace hpos := Lib.hid hpos
          obtain ⟨W3, hW3⟩ : ∃ W3, W3 = w2.setCell ⟨w.heap.size + 1, k, none⟩ (.int .i64 (numOf (ofL a) 10)) := ⟨_, rfl⟩
          have hV3 : VrW w s0 (k + 1) (done ++ [a]) r f' W3 := by
            rw [hW3]
            refine ⟨hlow2.out.setCell (by simp) _, ?_, blk_set_other (by omega) _ g2.out, ?_, hf1.out, by simp [hV.out.len], hcut.out, hrl.out⟩
            · obtain ⟨m, hm⟩ := hmx2.out
              exact ⟨m, (World.cell?_of_block (a := ⟨0, 0, none⟩) (w := w2) (Below.heap_setCell _ _ _ _ (by simp))).trans hm⟩
            · rw [blk_set g.out]
              rcases lt4 h4 with rfl | rfl | rfl | rfl <;> simp [hf2.out]
          replace hV3 := Lib.hid hV3
          have hW3' := Lib.hid hW3
          clear hW3
          rcases (show k = 0 ∨ k = 1 ∨ k = 2 by omega) with rfl | rfl | rfl
          all_goals
            go_wp2
            try rw [← hW3'.out]
            go_roundw
            case rel => exact ⟨_, _, _, f', by omega, by go_num, rfl, hV3.out⟩
            case measure => simp [intOf]
      · have hk3 : k = 3 := by omega
        have d3 : decide ((k : Int) < 3) = false := decide_eq_false (by omega)
        have d3' : decide (k < 3) = false := decide_eq_false h3
        rcases hab with ⟨rfl, e1, e2, e3⟩ | ⟨rfl, e1, e3⟩
        · have hcut : if k + 1 < 4 then cutAll 44 s0.data.toList = (done ++ [a]) ++ cutAll 44 r else cutAll 44 s0.data.toList = done ++ [a] := by
            rw [if_neg (by omega), hcV.out, ← e1, cutAll_no e3]
          have hrl : r.length ≤ s0.size := hal.2
          have hal2 := hal.1
          replace hcut := Lib.hid hcut; replace e1 := Lib.hid e1; replace e2 := Lib.hid e2; replace e3 := Lib.hid e3; replace hal := Lib.hid hal; replace hrl := Lib.hid hrl; replace hk3 := Lib.hid hk3
          clear hal
          have hal := hal2
          replace hal := Lib.hid hal
          clear hal2
          have hva := vnum_any (ofL a) (wr.drewN nd) (by rw [ofL_size]; have := hal.out; have : maxLen = 9223372036854775807 := rfl; omega)
          replace hva := Lib.hid hva
          go_wp2_with fail
          refine hva.out.mono ?_
          rintro e w2 ⟨rfl, hb2⟩
          have hb2' : Below wr.heap.size wr w2 := below_drewT hb2
          have g := blk_below hb2' hV.out.arr (blk_lt hV.out.arr)
          have g2 := blk_below hb2' hV.out.res (blk_lt hV.out.res)
          have cc := blk_cell g
          have ff := blk_free g
          have hlow2 := hV.out.low.trans (hb2'.mono hV.out.low.size)
          have hmx2 := hV.out.mx.low hb2'
          have hpos := hV.out.mx.pos
          obtain ⟨f', hf1, hf2⟩ : ∃ f' : Nat → Int, Hid (∀ j, j < k + 1 → f' j = pnum (done ++ [a]) j) ∧ Hid (∀ j, f' j = if j = k then numOf (ofL a) 10 else f j) := by
            refine ⟨fun j => if j = k then numOf (ofL a) 10 else f j, fun j hj => ?_, fun _ => rfl⟩
            show (if j = k then numOf (ofL a) 10 else f j) = pnum (done ++ [a]) j
            split
            · next h => rw [h]; unfold pnum; rw [getD_app _ _ _ _ _ hV.out.len]
            · rw [hV.out.val j (by omega)]; unfold pnum; rw [getD_old _ _ _ (by rw [hV.out.len]; omega)]
          replace hb2 := Lib.hid hb2; replace hb2' := Lib.hid hb2'; replace g := Lib.hid g; replace g2 := Lib.hid g2; replace hlow2 := Lib.hid hlow2; replace hmx2 := Lib.hid hmx2; replace hpos := Lib.hid hpos
          obtain ⟨W3, hW3⟩ : ∃ W3, W3 = w2.setCell ⟨w.heap.size + 1, k, none⟩ (.int .i64 (numOf (ofL a) 10)) := ⟨_, rfl⟩
          have hV3 : VrW w s0 (k + 1) (done ++ [a]) r f' W3 := by
            rw [hW3]
            refine ⟨hlow2.out.setCell (by simp) _, ?_, blk_set_other (by omega) _ g2.out, ?_, hf1.out, by simp [hV.out.len], hcut.out, hrl.out⟩
            · obtain ⟨m, hm⟩ := hmx2.out
              exact ⟨m, (World.cell?_of_block (a := ⟨0, 0, none⟩) (w := w2) (Below.heap_setCell _ _ _ _ (by simp))).trans hm⟩
            · rw [blk_set g.out]
              rcases lt4 h4 with rfl | rfl | rfl | rfl <;> simp [hf2.out]
          replace hV3 := Lib.hid hV3
          have hW3' := Lib.hid hW3
          clear hW3
          have hk3' := hk3.out; subst hk3'
          all_goals
            go_wp2
            try rw [← hW3'.out]
            go_roundw
            case rel => exact ⟨_, _, _, f', by omega, by go_num, rfl, hV3.out⟩
            case measure => simp [intOf]
        · have hlen : (cutAll 44 s0.data.toList).length ≠ 4 := by
            rw [hcV.out, e1, cutAll_hit e3]
            have := cutAll_pos 44 r
            simp [hV.out.len]; omega
          replace hlen := Lib.hid hlen; replace e1 := Lib.hid e1; replace e3 := Lib.hid e3; replace hal := Lib.hid hal; replace hk3 := Lib.hid hk3
          have hz := vecOf_no hlen.out
          have cx := blk_cell hV.out.res
          have fx := blk_free hV.out.res
          have hlow := hV.out.low
          replace hz := Lib.hid hz; replace hlow := Lib.hid hlow
          go_wp2
          refine bodyPost_ret (v := .tuple #[V4.zero.val, .int .i64 11]) (by simp [results, Tryz.results68, go_sem, cx, V4.zero]) rfl ⟨by rw [hz.out], ?_⟩
          exact (((((hlow.out.trans (below_dn _ _ _)).setCell (Nat.le_refl _) _).setCell (Nat.le_refl _) _).setCell (Nat.le_refl _) _).setCell (Nat.le_refl _) _)
    · have hi : ¬ (k : Int) < 4 := by omega
      have k4 : k = 4 := by omega
      subst k4
      have hcV := hV.out.cut
      rw [if_neg (by omega)] at hcV
      have hvo : vecOf s0 = (vecP done).told 11 := by unfold vecOf; rw [hcV, if_pos hV.out.len]
      have hv := hV.out.val
      have e0 := hv 0 (by omega); have e1 := hv 1 (by omega); have e2 := hv 2 (by omega); have e3 := hv 3 (by omega)
      have cc := blk_cell hV.out.arr
      obtain ⟨v, hv⟩ : ∃ v : V4, v = vecP done := ⟨_, rfl⟩
      have hc : (#[.int .i64 (f 0), .int .i64 (f 1), .int .i64 (f 2), .int .i64 (f 3)] : Array Value) = v.cells := by rw [hv, e0, e1, e2, e3]; rfl
      rw [hc] at cc
      have hto := told_any v 11 wr
      clear e0 e1 e2 e3 hc
      rw [← hv] at hvo
      replace hcV := Lib.hid hcV; replace hvo := Lib.hid hvo; replace hv := Lib.hid hv; replace hto := Lib.hid hto
      go_wp2_with fail
      refine hto.out.mono ?_
      rintro e w2 ⟨rfl, hb2⟩
      have hlow2 := hV.out.low.trans (hb2.mono hV.out.low.size)
      have g2 := blk_below hb2 hV.out.res (blk_lt hV.out.res)
      clear cc
      have cx := blk_cell g2
      have fx := blk_free g2
      obtain ⟨u, hu⟩ : ∃ u : V4, u = (v.told 11).1 := ⟨_, rfl⟩
      obtain ⟨r, hr⟩ : ∃ r : Int, r = (v.told 11).2 := ⟨_, rfl⟩
      rw [← hu, ← hr]
      have hres : vecOf s0 = (u, r) := by rw [hvo.out, hu, hr]
      replace hb2 := Lib.hid hb2; replace hlow2 := Lib.hid hlow2; replace g2 := Lib.hid g2; replace hu := Lib.hid hu; replace hr := Lib.hid hr; replace hres := Lib.hid hres
      go_wp2
      refine bodyPost_ret (v := .tuple #[u.val, .int .i64 r]) (by simp [results, Tryz.results68, go_sem, cx]) rfl ⟨by rw [hres.out], ?_⟩
      exact ((((hlow2.out.setCell (Nat.le_refl _) _).setCell (Nat.le_refl _) _).setCell (Nat.le_refl _) _).setCell (Nat.le_refl _) _)
end Go.Proofs.YteoihdkaoipocaaGreatDoor

/- corveeref03.Cut: a text's pieces; corveeref03.Right. -/
namespace Go.Proofs.YteoihdkaoipocaaGreatDoor
open Go.RowKit

/-- a row of texts in memory -/
structure StrsAt (w : World) (so : Option Addr) (n : Nat) (xs : List ByteArray) : Prop where
  len : xs.length = n
  max : n ≤ 9223372036854775807
  cell : ∀ i x, xs[i]? = some x → ∃ b off, so = some ⟨b, off, none⟩ ∧ b < w.heap.size ∧ w.cell? ⟨b, off + i, none⟩ = some (.string x)
theorem StrsAt.below {w w' : World} {B : Nat} {so : Option Addr} {n : Nat} {xs : List ByteArray} (h : StrsAt w so n xs) (hb : Below B w w') (hB : w.heap.size ≤ B) : StrsAt w' so n xs :=
  ⟨h.len, h.max, fun i x hx => by
    obtain ⟨b, off, e, hlt, hc⟩ := h.cell i x hx
    exact ⟨b, off, e, Nat.lt_of_lt_of_le hlt hb.size, (below_cell hb (by omega)).trans hc⟩⟩
theorem StrsAt.low {w w' : World} {so : Option Addr} {n : Nat} {xs : List ByteArray} (h : StrsAt w so n xs) (hb : Below w.heap.size w w') : StrsAt w' so n xs := h.below hb (Nat.le_refl _)
theorem StrsAt.get {w : World} {so : Option Addr} {n : Nat} {xs : List ByteArray} (h : StrsAt w so n xs) {i : Nat} (hi : i < n) : ∃ x, xs[i]? = some x := ⟨_, List.getElem?_eq_getElem (by rw [h.len]; exact hi)⟩
theorem owns_cap {w : World} {base g cap n m size : Nat} {e : TypeId} {xs : List Value} (h : w.ownsRow base e size (.slice (some ⟨g, 0, none⟩) n cap) m xs) : m ≤ cap := by
  rcases h.2 with ⟨hv, _⟩ | ⟨g', cap', cur, hv, _, _, hc, _⟩
  · cases hv
  · cases hv; exact hc
theorem owns_at {w : World} {base g cap n m size : Nat} {e : TypeId} {xs : List Value} (h : w.ownsRow base e size (.slice (some ⟨g, 0, none⟩) n cap) m xs) : ∃ c, w.heap[g]? = some (.cells c e (0, 0)) := by
  rcases h.2 with ⟨hv, _⟩ | ⟨g', cap', cur, hv, _, hh, _, _⟩
  · cases hv
  · cases hv; exact ⟨cur, hh⟩
/-- a row of one's own is a row of texts -/
theorem strs_of_own {w : World} {base g cap n : Nat} {xs : List ByteArray} (h : w.ownsRow base 9 1 (.slice (some ⟨g, 0, none⟩) n cap) n (xs.map .string)) (hm : n ≤ 9223372036854775807) : StrsAt w (some ⟨g, 0, none⟩) n xs := by
  have hl : xs.length = n := by have := h.1; simpa using this
  refine ⟨hl, hm, fun i x hx => ?_⟩
  have hi := (List.getElem?_eq_some_iff.1 hx).1
  refine ⟨g, 0, rfl, (h.lt g rfl).2, ?_⟩
  rw [Nat.zero_add, World.ownsRow.cellAt h i (by omega), List.getElem?_map, hx]; rfl
theorem strs_of_blk {w : World} {b : Nat} {xs : List ByteArray} {fr : Nat × Nat} (h : w.heap[b]? = some (.cells (xs.map Value.string).toArray 9 fr)) (hm : xs.length ≤ 9223372036854775807) : StrsAt w (some ⟨b, 0, none⟩) xs.length xs :=
  ⟨rfl, hm, fun i x hx => ⟨b, 0, rfl, blk_lt h, by rw [Nat.zero_add, blk_cell h]; simp [hx]⟩⟩
theorem StrsAt.sub {w : World} {b off n : Nat} {xs : List ByteArray} (h : StrsAt w (some ⟨b, off, none⟩) n xs) (k : Nat) (hk : k ≤ n) : StrsAt w (some ⟨b, off + k, none⟩) (n - k) (xs.drop k) :=
  ⟨by rw [List.length_drop, h.len], by have := h.max; omega, fun i x hx => by
    rw [List.getElem?_drop] at hx
    obtain ⟨b', off', e, hlt, hc⟩ := h.cell (k + i) x hx
    cases e
    exact ⟨b, off + k, rfl, hlt, by rw [Nat.add_assoc]; exact hc⟩⟩

theorem info9 : (Tryz.prog.info? 9).map (fun i => (i.zero, i.size, i.bytes)) = some (some (.string ByteArray.empty), 1, 16) := by kernel_rfl
theorem maxLen_ge {n : Nat} (h : n ≤ 9000000000) : n + 1 ≤ maxLen := by have : maxLen = 9223372036854775807 := rfl; omega
theorem str_new (w : World) (x : ByteArray) : ∀ j u, [Value.string x][j]? = some u → (w.alloc (.cells #[.string x] 9 (0, 0))).cell? ((⟨w.heap.size, 0, none⟩ : Addr).add j) = some u := cell_one_new w (.string x) 9
theorem str_one (x : ByteArray) : ∀ u ∈ [Value.string x], u.oneCell' = true := by simp [Value.oneCell']
theorem chz_eq (s : ByteArray) (k : Nat) (hk : k < s.size) (x : UInt8) : (chz s k == (x.toNat : Int)) = decide (s.data.toList[k]? = some x) := by
  have h2 : k < s.data.toList.length := hk
  have h4 : k < s.data.size := hk
  have h3 : s.data.toList.getD k 0 = s.data.toList[k] := by
    simp only [List.getD, Array.getElem?_toList, Array.getElem_toList]
    rw [Array.getElem?_eq_getElem h4]; rfl
  unfold chz
  rw [h3, List.getElem?_eq_getElem h2]
  rw [Bool.eq_iff_iff]
  simp only [beq_iff_eq, decide_eq_true_eq, Option.some.injEq]
  constructor
  · intro e; exact UInt8.toNat_inj.1 (by omega)
  · intro e; rw [e]
theorem take_one {α : Type} (l : List α) (k f : Nat) (x : α) (hx : l[k]? = some x) (hf : f ≤ k) : (l.drop f).take (k + 1 - f) = (l.drop f).take (k - f) ++ [x] := by
  obtain ⟨d, rfl⟩ : ∃ d, k = f + d := ⟨k - f, by omega⟩
  rw [show f + d + 1 - f = d + 1 by omega, show f + d - f = d by omega, List.take_add_one, List.getElem?_drop, hx]
  rfl
theorem drop_hit {α : Type} (l : List α) (k f : Nat) (x : α) (hx : l[k]? = some x) (hf : f ≤ k) : l.drop f = (l.drop f).take (k - f) ++ x :: l.drop (k + 1) := by
  obtain ⟨d, rfl⟩ : ∃ d, k = f + d := ⟨k - f, by omega⟩
  have hl := (List.getElem?_eq_some_iff.1 hx).1
  have e : (l.drop f).drop d = x :: l.drop (f + d + 1) := by
    rw [List.drop_drop, List.drop_eq_getElem_cons hl, (List.getElem?_eq_some_iff.1 hx).2]
  rw [show f + d - f = d by omega, ← e, List.take_append_drop]

structure CtW (w : World) (s : ByteArray) (x : UInt8) (k f : Nat) (n : Nat) (done : List ByteArray) (ov : Value) (wr : World) : Prop where
  low : Below w.heap.size w wr
  own : wr.ownsRow w.heap.size 9 1 ov n (done.map Value.string)
  cut : (cutAll x s.data.toList).map ofL = done ++ (cutAll x (s.data.toList.drop f)).map ofL
  no : x ∉ (s.data.toList.drop f).take (k - f)
  fk : f ≤ k
  nk : n ≤ k

def StrsPost (xs : List ByteArray) (w : World) (e : Ending) (w' : World) : Prop :=
  ∃ so n c, e = .returned (.slice so n c) ∧ n ≤ c ∧ StrsAt w' so n xs ∧ (∀ b off, so = some ⟨b, off, none⟩ → off = 0 ∧ w.heap.size ≤ b ∧ ∃ c, w'.heap[b]? = some (.cells c 9 (0, 0))) ∧ Below w.heap.size w w'
set_option maxRecDepth 100000 in
set_option maxHeartbeats 3200000 in
theorem rcut_any (s : ByteArray) (x : UInt8) (w : World) (hs : s.size ≤ 4294967280) : Calls Tryz.prog 31 #[.string s, .int .u8 (x.toNat : Int)] w (StrsPost ((cutAll x s.data.toList).map ofL) w) := by
  obtain ⟨i9, hi9, hz9, hz91, hz92⟩ := info_parts info9
  have hix : ∀ (k : Nat), k < s.size → ∀ w, (Instr.index 9 (.string s) (.int .i64 (k : Int))).run Tryz.prog w = .ok (.int .u8 (chz s k)) w := fun k hk w => index_at Tryz.underlying9 s k k rfl hk w
  have hsl : ∀ (f k : Nat), f ≤ k → k ≤ s.size → ∀ w, (Instr.slice 9 (.string s) (some (.int .i64 (f : Int))) (some (.int .i64 (k : Int))) none).run Tryz.prog w = .ok (.string (ofL ((s.data.toList.drop f).take (k - f)))) w := fun f k h1 h2 w => by
    rw [run_slice_string w 9 s .i64 .i64 f k Tryz.underlying9 (by omega) (by omega) (by omega)]
    congr 2
    exact toL_inj (by rw [ofL_toL, Lib.extract_data]; rfl)
  have hse : ∀ (f : Nat), f ≤ s.size → ∀ w, (Instr.slice 9 (.string s) (some (.int .i64 (f : Int))) none none).run Tryz.prog w = .ok (.string (ofL (s.data.toList.drop f))) w := fun f h1 w => by
    rw [run_slice_string_from_if w 9 s .i64 f Tryz.underlying9, if_pos ⟨by omega, by omega⟩]
    congr 2
    exact toL_inj (by rw [ofL_toL, Lib.extract_to_end]; rfl)
  have hC0 : CtW w s x 0 0 0 [] (.slice none 0 0) w := ⟨Below.refl _ _, World.ownsRow_nil _ _ _ _, by simp, by simp, Nat.le_refl _, Nat.le_refl _⟩
  replace hix := Lib.hid hix; replace hsl := Lib.hid hsl; replace hse := Lib.hid hse; replace hC0 := Lib.hid hC0
  go_enter Tryz.func31, Tryz.ntmps31
  go_wp2
  go_loopw [5, 6, 7] (fun ov fv i wr => ∃ (k f n : Nat) (done : List ByteArray), i = .int .i64 k ∧ fv = .int .i64 f ∧ k ≤ s.size ∧ f ≤ k ∧ n ≤ k ∧ Hid (CtW w s x k f n done ov wr)) (fun _ _ i _ => s.size - (intOf i).toNat)
  case atStart => exact ⟨0, 0, 0, [], rfl, rfl, Nat.zero_le _, Nat.le_refl _, Nat.le_refl _, hC0.out⟩
  case round =>
    obtain ⟨k, f, n, done, rfl, rfl, hk, hf, hnk, hC⟩ := hrel
    by_cases hk1 : k < s.size
    · have hc1 : (k : Int) < s.size := by omega
      have hi1 := hix.out k hk1
      have hq := chz_eq s k hk1 x
      obtain ⟨c, hc⟩ : ∃ c, c = chz s k := ⟨_, rfl⟩
      rw [← hc] at hi1 hq
      by_cases he : s.data.toList[k]? = some x
      · have d : (c == (x.toNat : Int)) = true := by rw [hq]; exact decide_eq_true he
        have hs1 := hsl.out f k hf (by omega)
        obtain ⟨pc, hpc⟩ : ∃ pc, pc = ofL ((s.data.toList.drop f).take (k - f)) := ⟨_, rfl⟩
        rw [← hpc] at hs1
        have hownA := ((hC.out).own).alloc (.cells #[.string pc] 9 (0, 0))
        have hnews := str_new wr pc
        have hone := str_one pc
        have h63 := maxLen_ge (n := n) (by omega)
        have hby : (n + 1) * 16 ≤ 140737488355328 := by omega
        have hbas : w.heap.size ≤ (wr.alloc (.cells #[.string pc] 9 (0, 0))).heap.size := by have := (hC.out).low.size; simp; omega
        replace hownA := Lib.hid hownA; replace hnews := Lib.hid hnews; replace hone := Lib.hid hone; replace h63 := Lib.hid h63; replace hby := Lib.hid hby; replace hbas := Lib.hid hbas
        replace hc := Lib.hid hc; replace he := Lib.hid he; replace hq := Lib.hid hq; replace hpc := Lib.hid hpc
        go_wp2_with (at_builtin; refine wpList_append_own _ rfl _ _ 71 rfl (w.heap.size) 9 i9 _ 1 16 Tryz.underlying71 hi9 hz9 hz91 hz92 rfl Nat.one_pos _ n _ rfl hownA.out ⟨wr.heap.size, 0, none⟩ 1 1 [.string pc] rfl rfl hnews.out hone.out h63.out hby.out hbas.out ?_; intro v1 w9 hown9 hgrow _; replace hown9 := Lib.hid hown9; replace hgrow := Lib.hid hgrow)
        have hC9 : CtW w s x (k + 1) (k + 1) (n + 1) (done ++ [pc]) v1 w9 := by
          refine ⟨(hC.out.low.alloc hC.out.low.size _).grown hgrow.out (by have := hC.out.low.size; simp; omega) (fun j e => (hC.out.own.lt j e).1), by rw [List.map_append]; exact hown9.out, ?_, by simp, Nat.le_refl _, by omega⟩
          rw [hC.out.cut, drop_hit _ k f x he.out hf, cutAll_hit hC.out.no, hpc.out]; simp
        replace hC9 := Lib.hid hC9
        go_wp2
        go_roundw
        case rel => exact ⟨k + 1, k + 1, n + 1, done ++ [pc], by go_num, by go_num, by omega, by omega, by omega, hC9.out⟩
        case measure => simp [intOf]; omega
      · have d : (c == (x.toNat : Int)) = false := by rw [hq]; exact decide_eq_false he
        have hC9 : CtW w s x (k + 1) f n done u5 wr := by
          refine ⟨hC.out.low, hC.out.own, hC.out.cut, ?_, by omega, by omega⟩
          obtain ⟨y, hy⟩ : ∃ y, s.data.toList[k]? = some y := ⟨_, List.getElem?_eq_getElem hk1⟩
          rw [take_one _ k f y hy hf]
          intro hm
          rcases List.mem_append.1 hm with h | h
          · exact hC.out.no h
          · have : x = y := by simpa using h
            rw [this] at he; exact he hy
        replace hc := Lib.hid hc; replace he := Lib.hid he; replace hq := Lib.hid hq; replace hC9 := Lib.hid hC9
        go_wp2
        go_roundw
        case rel => exact ⟨k + 1, f, n, done, by go_num, rfl, by omega, by omega, by omega, hC9.out⟩
        case measure => simp [intOf]; omega
    · have hc1 : ¬ (k : Int) < s.size := by omega
      have hkn : k = s.size := by omega
      have hs1 := hse.out f (by omega)
      obtain ⟨pc, hpc⟩ : ∃ pc, pc = ofL (s.data.toList.drop f) := ⟨_, rfl⟩
      rw [← hpc] at hs1
      have hownA := ((hC.out).own).alloc (.cells #[.string pc] 9 (0, 0))
      have hnews := str_new wr pc
      have hone := str_one pc
      have h63 := maxLen_ge (n := n) (by omega)
      have hby : (n + 1) * 16 ≤ 140737488355328 := by omega
      have hbas : w.heap.size ≤ (wr.alloc (.cells #[.string pc] 9 (0, 0))).heap.size := by have := (hC.out).low.size; simp; omega
      replace hownA := Lib.hid hownA; replace hnews := Lib.hid hnews; replace hone := Lib.hid hone; replace h63 := Lib.hid h63; replace hby := Lib.hid hby; replace hbas := Lib.hid hbas
      replace hpc := Lib.hid hpc; replace hkn := Lib.hid hkn
      go_wp2_with (at_builtin; refine wpList_append_own _ rfl _ _ 71 rfl (w.heap.size) 9 i9 _ 1 16 Tryz.underlying71 hi9 hz9 hz91 hz92 rfl Nat.one_pos _ n _ rfl hownA.out ⟨wr.heap.size, 0, none⟩ 1 1 [.string pc] rfl rfl hnews.out hone.out h63.out hby.out hbas.out ?_; intro v1 w9 hown9 hgrow _; obtain ⟨g, cap1, rfl⟩ := Joins.ownsRow_form hown9 (Nat.succ_pos _); replace hown9 := Lib.hid hown9; replace hgrow := Lib.hid hgrow)
      have hlow9 : Below w.heap.size w w9 := (hC.out.low.alloc hC.out.low.size _).grown hgrow.out (by have := hC.out.low.size; simp; omega) (fun j e => (hC.out.own.lt j e).1)
      have hown : w9.ownsRow w.heap.size 9 1 (.slice (some ⟨g, 0, none⟩) (n + 1) cap1) (n + 1) (((cutAll x s.data.toList).map ofL).map Value.string) := by
        have hno := hC.out.no
        rw [List.take_of_length_le (by rw [List.length_drop, toL_len]; have := hkn.out; omega)] at hno
        rw [hC.out.cut, cutAll_no hno, List.map_append]
        have h := hown9.out
        rw [hpc.out] at h
        exact h
      replace hlow9 := Lib.hid hlow9; replace hown := Lib.hid hown
      go_ret
      exact ⟨some ⟨g, 0, none⟩, n + 1, cap1, rfl, owns_cap hown.out, strs_of_own hown.out (by omega), fun b off e => by cases e; exact ⟨rfl, (hown.out.lt g rfl).1, owns_at hown.out⟩, hlow9.out⟩
end Go.Proofs.YteoihdkaoipocaaGreatDoor

/- corveeref03.Digits: a number in decimal digits. -/
namespace Go.Proofs.YteoihdkaoipocaaGreatDoor
open Go.RowKit

def digS : ByteArray := { data := #[48, 49, 50, 51, 52, 53, 54, 55, 56, 57] }
theorem dig_ext (d : Nat) (h : d < 10) : ({ data := #[48, 49, 50, 51, 52, 53, 54, 55, 56, 57] } : ByteArray).extract d (1 + d) = ofL [UInt8.ofNat (48 + d)] := by
  rcases (show d = 0 ∨ d = 1 ∨ d = 2 ∨ d = 3 ∨ d = 4 ∨ d = 5 ∨ d = 6 ∨ d = 7 ∨ d = 8 ∨ d = 9 by omega) with rfl | rfl | rfl | rfl | rfl | rfl | rfl | rfl | rfl | rfl <;> kernel_rfl
theorem ofL_app (a b : List UInt8) : ofL a ++ ofL b = ofL (a ++ b) := toL_inj (by rw [ofL_toL]; simp [ofL])
theorem dec_len : ∀ (n u : Nat), u < 10 ^ (n + 1) → (Lib.decDigits u).length ≤ n + 1
  | 0, u, h => by rw [Lib.decDigits, dif_pos (by simpa using h)]; simp
  | n + 1, u, h => by
    rw [Lib.decDigits]
    split
    · simp
    · have := dec_len n (u / 10) (by rw [Nat.pow_succ] at h; omega)
      rw [List.length_append]
      simp
      omega
theorem dec_le {u : Nat} (h : u ≤ 9223372036854775808) : (Lib.decDigits u).length ≤ 19 := by
  refine dec_len 18 u ?_
  have : (10 : Nat) ^ (18 + 1) = 10000000000000000000 := by decide
  rw [this]
  omega
theorem neg_tmod (u : Nat) : (-(u : Int)).tmod 10 = -((u % 10 : Nat) : Int) := by
  rw [Int.neg_tmod, Int.tmod_eq_emod_of_nonneg (by omega)]; omega
theorem neg_tdiv (u : Nat) : (-(u : Int)).tdiv 10 = -((u / 10 : Nat) : Int) := by
  rw [Int.neg_tdiv, Int.tdiv_eq_ediv_of_nonneg (by omega)]; omega
set_option maxRecDepth 100000 in
set_option maxHeartbeats 800000 in
theorem minus_any (u : Nat) (hu : u ≤ 9223372036854775808) (w : World) : Calls Tryz.prog 112 #[.int .i64 (-(u : Int))] w fun e w' => e = .returned (.string (ofL (Lib.decDigits u))) ∧ w' = w := by
  induction u using Nat.strongRecOn with
  | _ u ih =>
    obtain ⟨q, hq⟩ : ∃ q, q = u / 10 := ⟨_, rfl⟩
    obtain ⟨d, hd⟩ : ∃ d, d = u % 10 := ⟨_, rfl⟩
    have hd10 : d < 10 := by omega
    obtain ⟨x, hx⟩ : ∃ x : Int, x = -(u : Int) := ⟨_, rfl⟩
    have hr : x.tmod 10 = -(d : Int) := by rw [hx, hd, neg_tmod]
    have hqq : x.tdiv 10 = -(q : Int) := by rw [hx, hq, neg_tdiv]
    have hx0 : x ≤ 0 := by omega
    have hx1 : -9223372036854775808 ≤ x := by omega
    have hsl := dig_ext d hd10
    have hq0 : (0 : Int) ≤ (q : Int) := by omega
    have hq1 : (q : Int) ≤ 922337203685477580 := by omega
    have ihq := fun (h : q < u) => ih q h (by omega)
    rw [← hx]
    have ih' := Lib.hid ih
    have ihq' := Lib.hid ihq
    clear ih ihq
    by_cases hb : x > -10
    · have hdd : Lib.decDigits u = [UInt8.ofNat (48 + d)] := by rw [Lib.decDigits, dif_pos (by omega)]; rw [show d = u by omega]
      have db : decide (-10 < x) = true := decide_eq_true hb
      replace hq := Lib.hid hq; replace hd := Lib.hid hd; replace hx := Lib.hid hx; replace hdd := Lib.hid hdd; replace hsl := Lib.hid hsl
      go_enter Tryz.func112, Tryz.ntmps112
      go_wp2
      go_ret
      refine ⟨?_, rfl⟩
      show Ending.returned (.string (({ data := #[48, 49, 50, 51, 52, 53, 54, 55, 56, 57] } : ByteArray).extract d (1 + d))) = _
      rw [hsl.out, hdd.out]
    · have hdd : Lib.decDigits u = Lib.decDigits q ++ [UInt8.ofNat (48 + d)] := by rw [Lib.decDigits, dif_neg (by omega), ← hq, ← hd]
      have db : decide (-10 < x) = false := decide_eq_false hb
      have hc := ihq'.out (by omega)
      have hwq : wrap64 (-(q : Int)) = -(q : Int) := by unfold wrap64; omega
      have hsz : (ofL (Lib.decDigits q)).size ≤ 19 := by rw [ofL_size]; exact dec_le (by omega)
      have hlt : ¬ 9223372036854775807 < (ofL (Lib.decDigits q)).size + (min (1 + d) 10 - d) := by omega
      replace hq := Lib.hid hq; replace hd := Lib.hid hd; replace hx := Lib.hid hx; replace hdd := Lib.hid hdd; replace hsl := Lib.hid hsl; replace hc := Lib.hid hc; replace hsz := Lib.hid hsz
      go_enter Tryz.func112, Tryz.ntmps112
      go_wp2_with fail
      (with_reducible refine hc.out.mono ?_)
      rintro e w1 ⟨rfl, rfl⟩
      go_wp2
      go_ret
      refine ⟨?_, rfl⟩
      show Ending.returned (.string (ofL (Lib.decDigits q) ++ ({ data := #[48, 49, 50, 51, 52, 53, 54, 55, 56, 57] } : ByteArray).extract d (1 + d))) = _
      rw [hsl.out, hdd.out, ofL_app]
theorem itoa_len {n : Int} (h0 : -9223372036854775808 ≤ n) (h1 : n ≤ 9223372036854775807) : (Lib.itoa n).length ≤ 20 := by
  unfold Lib.itoa
  split
  · have := dec_le (u := n.natAbs) (by omega)
    simp; omega
  · have := dec_le (u := n.toNat) (by omega)
    omega
set_option maxRecDepth 100000 in
theorem digits_any (n : Int) (h0 : -9223372036854775808 ≤ n) (h1 : n ≤ 9223372036854775807) (w : World) : Calls Tryz.prog 87 #[.int .i64 n] w fun e w' => e = .returned (.string (ofL (Lib.itoa n))) ∧ w' = w := by
  by_cases hn : n < 0
  · have dn : decide (n < 0) = true := decide_eq_true hn
    have hi : Lib.itoa n = 45 :: Lib.decDigits n.natAbs := if_pos hn
    have hc := minus_any n.natAbs (by omega) w
    rw [show (-(n.natAbs : Int)) = n by omega] at hc
    have hsz : (ofL (Lib.decDigits n.natAbs)).size ≤ 19 := by rw [ofL_size]; exact dec_le (by omega)
    have hlt : ¬ 9223372036854775807 < 1 + (ofL (Lib.decDigits n.natAbs)).size := by omega
    replace hi := Lib.hid hi; replace hc := Lib.hid hc; replace hsz := Lib.hid hsz
    go_enter Tryz.func87, Tryz.ntmps87
    go_wp2_with fail
    refine hc.out.mono ?_
    rintro e w1 ⟨rfl, rfl⟩
    go_wp2
    go_ret
    refine ⟨?_, rfl⟩
    show Ending.returned (.string (({ data := #[45] } : ByteArray) ++ ofL (Lib.decDigits n.natAbs))) = _
    rw [hi.out, show ({ data := #[45] } : ByteArray) = ofL [45] from rfl, ofL_app]; rfl
  · have dn : decide (n < 0) = false := decide_eq_false hn
    have hi : Lib.itoa n = Lib.decDigits n.toNat := if_neg hn
    have hc := minus_any n.toNat (by omega) w
    rw [show (-(n.toNat : Int)) = -n by omega] at hc
    replace hi := Lib.hid hi; replace hc := Lib.hid hc
    go_enter Tryz.func87, Tryz.ntmps87
    go_wp2_with fail
    (with_reducible refine hc.out.mono ?_)
    rintro e w1 ⟨rfl, rfl⟩
    go_wp2
    go_ret
    exact ⟨by rw [hi.out]; rfl, rfl⟩
end Go.Proofs.YteoihdkaoipocaaGreatDoor

/- corveeref03.Text: an amount as a text. -/
namespace Go.Proofs.YteoihdkaoipocaaGreatDoor
open Go.RowKit

/-- an amount as a text -/
def txtV (v : V4) : List UInt8 := Lib.itoa v.a ++ [44] ++ Lib.itoa v.b ++ [44] ++ Lib.itoa v.c ++ [44] ++ Lib.itoa v.d
structure V64 (v : V4) : Prop where
  a : -9223372036854775808 ≤ v.a ∧ v.a ≤ 9223372036854775807
  b : -9223372036854775808 ≤ v.b ∧ v.b ≤ 9223372036854775807
  c : -9223372036854775808 ≤ v.c ∧ v.c ≤ 9223372036854775807
  d : -9223372036854775808 ≤ v.d ∧ v.d ≤ 9223372036854775807
theorem txtV_len {v : V4} (h : V64 v) : (txtV v).length ≤ 83 := by
  have a := itoa_len h.a.1 h.a.2
  have b := itoa_len h.b.1 h.b.2
  have c := itoa_len h.c.1 h.c.2
  have d := itoa_len h.d.1 h.d.2
  simp [txtV]
  omega
set_option maxRecDepth 100000 in
set_option maxHeartbeats 400000 in
theorem rtext_any (v : V4) (hv : V64 v) (w : World) : Calls Tryz.prog 88 #[v.val] w fun e w' => e = .returned (.string (ofL (txtV v))) ∧ Below w.heap.size w w' := by
  obtain ⟨va, vb, vc, vd⟩ := v
  have ca := fun w => digits_any va hv.a.1 hv.a.2 w
  have cb := fun w => digits_any vb hv.b.1 hv.b.2 w
  have cc := fun w => digits_any vc hv.c.1 hv.c.2 w
  have cd := fun w => digits_any vd hv.d.1 hv.d.2 w
  have la := itoa_len hv.a.1 hv.a.2
  have lb := itoa_len hv.b.1 hv.b.2
  have lc := itoa_len hv.c.1 hv.c.2
  have ld := itoa_len hv.d.1 hv.d.2
  rw [← ofL_size] at la lb lc ld
  obtain ⟨A, hA⟩ : ∃ A, A = ofL (Lib.itoa va) := ⟨_, rfl⟩
  obtain ⟨B, hB⟩ : ∃ B, B = ofL (Lib.itoa vb) := ⟨_, rfl⟩
  obtain ⟨C, hC⟩ : ∃ C, C = ofL (Lib.itoa vc) := ⟨_, rfl⟩
  obtain ⟨D, hD⟩ : ∃ D, D = ofL (Lib.itoa vd) := ⟨_, rfl⟩
  simp only at la lb lc ld
  rw [← hA] at ca la
  rw [← hB] at cb lb
  rw [← hC] at cc lc
  rw [← hD] at cd ld
  replace hA := Lib.hid hA; replace hB := Lib.hid hB; replace hC := Lib.hid hC; replace hD := Lib.hid hD; replace hv := Lib.hid hv; replace ca := Lib.hid ca; replace cb := Lib.hid cb; replace cc := Lib.hid cc; replace cd := Lib.hid cd
  go_enter Tryz.func88, Tryz.ntmps88
  go_wp2
  go_quiet (first
    | ((go_at_call 87; (with_reducible exact Calls.quiet_of_same (ca.out _))))
    | ((go_at_call 87; (with_reducible exact Calls.quiet_of_same (cb.out _))))
    | ((go_at_call 87; (with_reducible exact Calls.quiet_of_same (cc.out _))))
    | ((go_at_call 87; (with_reducible exact Calls.quiet_of_same (cd.out _)))))
  go_wp2
  go_ret
  refine ⟨?_, ((Below.refl _ _).alloc (Nat.le_refl _) _).trans (below_dn _ _ _)⟩
  show Ending.returned (.string (A ++ ({ data := #[44] } : ByteArray) ++ B ++ ({ data := #[44] } : ByteArray) ++ C ++ ({ data := #[44] } : ByteArray) ++ D)) = _
  rw [hA.out, hB.out, hC.out, hD.out, show ({ data := #[44] } : ByteArray) = ofL [44] from rfl, ofL_app, ofL_app, ofL_app, ofL_app, ofL_app, ofL_app]
  rfl
end Go.Proofs.YteoihdkaoipocaaGreatDoor

/- The library's contracts: all in Shelf. No condition. -/

/- vec.Text: an amount as a text. -/
namespace Go.Proofs.YteoihdkaoipocaaGreatDoor
open Go.RowKit

/-- the library's table of powers of ten lies where it lay -/
def Tb (w : World) : Prop := Lib.TabBelow Tryz.prog w.heap.size w "internal/strconv.uint64pow10" .u64 Lib.pow10Tab
theorem tab_mono {B C : Nat} {w : World} (h : Lib.TabBelow Tryz.prog B w "internal/strconv.uint64pow10" .u64 Lib.pow10Tab) (hb : B ≤ C) : Lib.TabBelow Tryz.prog C w "internal/strconv.uint64pow10" .u64 Lib.pow10Tab := fun w' h' => h w' (h'.mono hb)
theorem Tb.low {w w' : World} (h : Tb w) (hb : Below w.heap.size w w') : Tb w' := tab_mono (Lib.TabBelow.on h hb) hb.size
/-- the text so far -/
def txtTo (v : V4) : Nat → List UInt8
  | 0 => []
  | 1 => Lib.itoa v.a
  | 2 => Lib.itoa v.a ++ [44] ++ Lib.itoa v.b
  | 3 => Lib.itoa v.a ++ [44] ++ Lib.itoa v.b ++ [44] ++ Lib.itoa v.c
  | _ => txtV v
structure VtW (w : World) (bv : Value) (l : List UInt8) (W : World) : Prop where
  low : Below w.heap.size w W
  row : W.ownsRow w.heap.size 5 1 bv l.length (Lib.byteCells l)
theorem info5 : (Tryz.prog.info? 5).map (fun i => (i.zero, i.size, i.bytes)) = some (some (.int .u8 0), 1, 1) := by kernel_rfl
theorem byteCells_app (a b : List UInt8) : Lib.byteCells (a ++ b) = Lib.byteCells a ++ Lib.byteCells b := by simp [Lib.byteCells]
theorem comma_news (w : World) : ∀ j u, ([.int .u8 44] : List Value)[j]? = some u → (w.alloc (.cells #[.int .u8 44] 5 (0, 0))).cell? ((⟨w.heap.size, 0, none⟩ : Addr).add j) = some u := by
  intro j u hu
  match j, hu with
  | 0, hu =>
    have := blk_cell (blk_new w (.cells #[.int .u8 44] 5 (0, 0))) 0
    simp at hu; subst hu
    exact this
  | j + 1, hu => simp at hu
theorem vt_index (a b c d : Int) (j : Nat) (hj : j < 4) (w : World) : (Instr.index 23 (.agg #[.int .i64 a, .int .i64 b, .int .i64 c, .int .i64 d]) (.int .i64 (j : Int))).run Tryz.prog w = .ok (.int .i64 (V4.get ⟨a, b, c, d⟩ j)) w := by
  rcases (show j = 0 ∨ j = 1 ∨ j = 2 ∨ j = 3 by omega) with rfl | rfl | rfl | rfl <;> kernel_rfl
theorem get_64 {v : V4} (h : V64 v) (j : Nat) : -9223372036854775808 ≤ v.get j ∧ v.get j ≤ 9223372036854775807 := by
  match j with
  | 0 => exact h.a
  | 1 => exact h.b
  | 2 => exact h.c
  | j + 3 => exact h.d
theorem txtTo_step (v : V4) (j : Nat) (hj : j < 4) : txtTo v (j + 1) = txtTo v j ++ (if j = 0 then [] else [44]) ++ Lib.itoa (v.get j) := by
  rcases (show j = 0 ∨ j = 1 ∨ j = 2 ∨ j = 3 by omega) with rfl | rfl | rfl | rfl
  · rfl
  · rfl
  · rfl
  · rfl
theorem txtTo_len {v : V4} (h : V64 v) (j : Nat) (hj : j ≤ 4) : (txtTo v j).length ≤ 21 * j := by
  induction j with
  | zero => simp [txtTo]
  | succ j ih =>
    rw [txtTo_step v j (by omega), List.length_append, List.length_append]
    have h1 := ih (by omega)
    have h2 := itoa_len (get_64 h j).1 (get_64 h j).2
    have h3 : (if j = 0 then ([] : List UInt8) else [44]).length ≤ 1 := by split <;> simp
    omega
set_option maxRecDepth 100000 in
set_option maxHeartbeats 1600000 in
theorem vtext_any (v : V4) (hv : V64 v) (w : World) (ht : Tb w) : Calls Tryz.prog 63 #[v.val] w fun e w' => e = .returned (.string (ofL (txtV v))) ∧ Below w.heap.size w w' := by
  obtain ⟨i5, hi5, hz5, hz51, hz52⟩ := info_parts info5
  have hst := fun j (hj : j < 4) => txtTo_step v j hj
  have hll := fun j (hj : j ≤ 4) => txtTo_len hv j hj
  have hgt := get_64 hv
  obtain ⟨va, vb, vc, vd⟩ := v
  have hW0 : VtW w (.slice none 0 0) (txtTo ⟨va, vb, vc, vd⟩ 0) (w.alloc (.cells #[.int .i64 va, .int .i64 vb, .int .i64 vc, .int .i64 vd] 23 (0, 0))) := ⟨(Below.refl _ _).alloc (Nat.le_refl _) _, rfl, .inl ⟨rfl, rfl⟩⟩
  have hst' := Lib.hid hst
  have hll' := Lib.hid hll
  have hgt' := Lib.hid hgt
  clear hst hll hgt
  replace hv := Lib.hid hv; replace ht := Lib.hid ht; replace hW0 := Lib.hid hW0
  go_enter Tryz.func63, Tryz.ntmps63
  go_wp2
  go_loopw [3, 4, 5, 7] (fun bv _ _ i wr => ∃ j : Nat, j ≤ 4 ∧ i = .int .i64 j ∧ Hid (VtW w bv (txtTo ⟨va, vb, vc, vd⟩ j) wr)) (fun _ _ _ i _ => 4 - (intOf i).toNat)
  case atStart => exact ⟨0, by omega, rfl, hW0.out⟩
  case round =>
    obtain ⟨j, hj, rfl, hM⟩ := hrel
    by_cases hc : j < 4
    · have hc1 : (j : Int) < 4 := by omega
      have hix := fun w => vt_index va vb vc vd j hc w
      obtain ⟨x, hx⟩ : ∃ x, x = V4.get ⟨va, vb, vc, vd⟩ j := ⟨_, rfl⟩
      rw [← hx] at hix
      have hxb := hgt'.out j
      rw [← hx] at hxb
      have hs := hst'.out j hc
      rw [← hx] at hs
      obtain ⟨l, hl⟩ : ∃ l, l = txtTo ⟨va, vb, vc, vd⟩ j := ⟨_, rfl⟩
      have hlb := hll'.out j hj
      rw [← hl] at hlb hs
      have hM' := hM.out
      rw [← hl] at hM'
      obtain ⟨n, hn⟩ : ∃ n, n = l.length := ⟨_, rfl⟩
      have hrow := hM'.row
      rw [← hn] at hrow hlb
      have hlow := hM'.low
      by_cases h0 : j = 0
      · subst h0
        have hcl := Tryz.strconv_AppendInt_10 w.heap.size n x hxb.1 hxb.2 u3 (Lib.byteCells l) wr hrow hlow.size (by omega) (Lib.TabBelow.on ht.out hlow)
        rw [if_pos rfl, List.append_nil] at hs
        have hix2 : ∀ w, (Instr.index 23 (.agg #[.int .i64 va, .int .i64 vb, .int .i64 vc, .int .i64 vd]) (.int .i64 0)).run Tryz.prog w = .ok (.int .i64 x) w := hix
        clear hix
        replace hx := Lib.hid hx; replace hs := Lib.hid hs; replace hl := Lib.hid hl; replace hM' := Lib.hid hM'; replace hn := Lib.hid hn; replace hrow := Lib.hid hrow; replace hlow := Lib.hid hlow; replace hcl := Lib.hid hcl; replace hxb := Lib.hid hxb; replace hM := Lib.hid hM
        go_wp2_with fail
        refine hcl.out.mono ?_
        rintro e w2 ⟨v2, rfl, hown2, hb2, _⟩
        have hW2 : VtW w v2 (txtTo ⟨va, vb, vc, vd⟩ (0 + 1)) w2 := ⟨hlow.out.trans hb2, by rw [hs.out, byteCells_app, List.length_append, ← hn.out]; exact hown2⟩
        replace hW2 := Lib.hid hW2; replace hown2 := Lib.hid hown2; replace hb2 := Lib.hid hb2
        clear hix2
        go_wp2
        go_roundw
        case rel => exact ⟨0 + 1, by omega, rfl, hW2.out⟩
        case measure => simp [intOf]
      · have hj0 : (0 : Int) < (j : Int) := by omega
        have dj : decide ((0 : Int) < (j : Int)) = true := decide_eq_true hj0
        have dj' : decide (0 < j) = true := decide_eq_true (by omega)
        rw [if_neg h0] at hs
        have hownA : (wr.alloc (.cells #[.int .u8 44] 5 (0, 0))).ownsRow w.heap.size 5 1 u3 n (Lib.byteCells l) := hrow.alloc (.cells #[.int .u8 44] 5 (0, 0))
        have hnews := comma_news wr
        have hone : ∀ u ∈ ([.int .u8 44] : List Value), u.oneCell' = true := by simp [Value.oneCell']
        have h63 := maxLen_ge (n := n) (by omega)
        have hby : (n + 1) * 1 ≤ 140737488355328 := by omega
        have hbas : w.heap.size ≤ (wr.alloc (.cells #[.int .u8 44] 5 (0, 0))).heap.size := by have := hlow.size; rw [World.size_alloc]; omega
        replace hx := Lib.hid hx; replace hs := Lib.hid hs; replace hl := Lib.hid hl; replace hM' := Lib.hid hM'; replace hn := Lib.hid hn; replace hrow := Lib.hid hrow; replace hlow := Lib.hid hlow; replace hxb := Lib.hid hxb; replace hM := Lib.hid hM; replace hownA := Lib.hid hownA; replace hnews := Lib.hid hnews; replace hone := Lib.hid hone; replace h63 := Lib.hid h63; replace hby := Lib.hid hby; replace hbas := Lib.hid hbas
        go_upto_region 7 with (at_builtin; refine wpList_append_own _ rfl _ _ 40 rfl w.heap.size 5 i5 _ 1 1 Tryz.underlying40 hi5 hz5 hz51 hz52 rfl Nat.one_pos u3 n _ rfl hownA.out ⟨wr.heap.size, 0, none⟩ 1 1 [.int .u8 44] rfl rfl hnews.out hone.out h63.out hby.out hbas.out ?_; intro v1 w9 hown9 hgrow9 _; obtain ⟨g9, cap9, rfl⟩ := Joins.ownsRow_form hown9 (Nat.succ_pos _); replace hown9 := Lib.hid hown9; replace hgrow9 := Lib.hid hgrow9)
        have hB9 : Below w.heap.size w w9 := (hlow.out.alloc hlow.out.size _).grown hgrow9.out hbas.out (fun k e => (hrow.out.lt k e).1)
        have hcl := Tryz.strconv_AppendInt_10 w.heap.size (n + 1) x hxb.out.1 hxb.out.2 (.slice (some ⟨g9, 0, none⟩) (n + 1) cap9) _ w9 hown9.out hB9.size (by omega) (Lib.TabBelow.on ht.out hB9)
        replace hB9 := Lib.hid hB9; replace hcl := Lib.hid hcl
        go_wp2_with fail
        refine hcl.out.mono ?_
        rintro e w2 ⟨v2, rfl, hown2, hb2, _⟩
        have hW2 : VtW w v2 (txtTo ⟨va, vb, vc, vd⟩ (j + 1)) w2 := ⟨hB9.out.trans hb2, by
          rw [hs.out, byteCells_app, byteCells_app, List.length_append, List.length_append, ← hn.out]
          exact hown2⟩
        replace hW2 := Lib.hid hW2; replace hown2 := Lib.hid hown2; replace hb2 := Lib.hid hb2
        clear hix
        go_wp2
        go_roundw
        case rel => exact ⟨j + 1, by omega, by go_num, hW2.out⟩
        case measure => simp [intOf]; omega
    · have hc1 : ¬ (j : Int) < 4 := by omega
      have hj4 : j = 4 := by omega
      subst hj4
      have hrow := hM.out.row
      have hlow := hM.out.low
      obtain ⟨l, hl⟩ : ∃ l, l = txtTo ⟨va, vb, vc, vd⟩ 4 := ⟨_, rfl⟩
      rw [← hl] at hrow
      have hl2 : l = txtV ⟨va, vb, vc, vd⟩ := hl
      have hpos : 0 < l.length := by rw [hl2]; simp [txtV]; omega
      obtain ⟨g, cap, rfl⟩ := Joins.ownsRow_form hrow hpos
      have hcv := run_convert_bytes_back (P := Tryz.prog) wr 40 9 5 ⟨g, 0, none⟩ cap l Tryz.underlying40 Tryz.underlying5 Tryz.underlying9 (fun i hi => by
        rw [Addr.add_lit, Nat.zero_add, World.ownsRow.cellAt hrow i (by omega), Lib.byteCells, List.getElem?_map, List.getElem?_eq_getElem hi]; rfl)
      replace hrow := Lib.hid hrow; replace hlow := Lib.hid hlow; replace hl := Lib.hid hl; replace hl2 := Lib.hid hl2; replace hM := Lib.hid hM; replace hpos := Lib.hid hpos
      go_wp2
      go_ret
      exact ⟨by rw [← hl2.out]; rfl, hlow.out⟩
end Go.Proofs.YteoihdkaoipocaaGreatDoor
