/- Small laws on blocks of memory, and the four amounts. -/
import Derived.Test.YteoihdkaoipocaaDoorProg
import Derived.WalkKit
import Derived.WalkLawsBesides
import Derived.WalkSpells
import Derived.Lib.Hide
import Derived.Deep.QuietTactic
import Derived.BigQuiet
import Derived.KernelRfl
namespace Go.Proofs.YteoihdkaoipocaaDoor
open Go.RowKit

/-- an amount of each of the four resources -/
structure V4 where
  a : Int
  b : Int
  c : Int
  d : Int
deriving DecidableEq

def V4.get (v : V4) : Nat → Int
  | 0 => v.a
  | 1 => v.b
  | 2 => v.c
  | _ => v.d

abbrev V4.cells (v : V4) : Array Value := #[.int .i64 v.a, .int .i64 v.b, .int .i64 v.c, .int .i64 v.d]
abbrev V4.val (v : V4) : Value := .agg #[.int .i64 v.a, .int .i64 v.b, .int .i64 v.c, .int .i64 v.d]

theorem lt4 {i : Nat} (h : i < 4) : i = 0 ∨ i = 1 ∨ i = 2 ∨ i = 3 := by omega

theorem below_cell {B : Nat} {w w' : World} (h : Below B w w') {b o : Nat} (hb : b < B) : w'.cell? ⟨b, o, none⟩ = w.cell? ⟨b, o, none⟩ := h.cell (p := ⟨b, o, none⟩) hb

section
variable {w w' : World} {b b' o B : Nat} {c : Array Value} {T : TypeId} {fr : Nat × Nat} {x y : Obj} {v : Value}
theorem blk_cell (h : w.heap[b]? = some (.cells c T fr)) (o : Nat) : w.cell? ⟨b, o, none⟩ = c[o]? := by simp [World.cell?, h]
theorem blk_free (h : w.heap[b]? = some (.cells c T (0, 0))) (o : Nat) : w.frozen? ⟨b, o, none⟩ = false := by simp [World.frozen?, h]
theorem blk_set (h : w.heap[b]? = some (.cells c T fr)) (o : Nat) (v : Value) : (w.setCell ⟨b, o, none⟩ v).heap[b]? = some (.cells (c.setIfInBounds o v) T fr) := by
  simp [World.setCell, Array.getElem?_modify, h]
theorem blk_set_other (hne : b ≠ b') (v : Value) (h : w.heap[b]? = some x) : (w.setCell ⟨b', o, none⟩ v).heap[b]? = some x := by
  rw [Below.heap_setCell _ _ _ _ hne]; exact h
theorem blk_lt (h : w.heap[b]? = some x) : b < w.heap.size := (Array.getElem?_eq_some_iff.1 h).1
theorem blk_new (w : World) (x : Obj) : (w.alloc x).heap[w.heap.size]? = some x := heap_alloc_new w x
theorem blk_at (w : World) (x : Obj) (h : b = w.heap.size) : (w.alloc x).heap[b]? = some x := h ▸ heap_alloc_new w x
theorem blk_old (y : Obj) (h : w.heap[b]? = some x) : (w.alloc y).heap[b]? = some x := (Below.heap_alloc w y b (blk_lt h)).trans h
theorem blk_below (hb : Below B w w') (h : w.heap[b]? = some x) (hlt : b < B) : w'.heap[b]? = some x := (hb.block b hlt).trans h
theorem blk_drew (h : w.heap[b]? = some x) : w.drew.heap[b]? = some x := h
theorem blk_drewN {n : Nat} (h : w.heap[b]? = some x) : (w.drewN n).heap[b]? = some x := h
end

theorem slice_to {P : Program} {t e : TypeId} {i : TypeInfo} (hU : P.underlying t = some (.slice e)) (hi : P.info? e = some i) (b len cap n : Nat) (x : Int) (hx : x = n) (hn : n ≤ cap) (w : World) :
    (Instr.slice t (.slice (some ⟨b, 0, none⟩) len cap) none (some (.int .i64 x)) (some (.int .i64 x))).run P w = .ok (.slice (some ⟨b, 0, none⟩) n n) w := by
  subst hx
  have h1 : ∀ (y : Nat) (_ : n ≤ y) c, (Instr.sliceBound (.int .i64 (n : Int)) y c).run P w = .ok n w := fun y h c => by
    simp [Instr.sliceBound, asIntOf, h]
  simp [Instr.slice, Instr.sliceBounds, run_underlying hU, h1 cap hn, h1 n (Nat.le_refl _), sizeOf, typeInfo, hi, Addr.add]
theorem slice_from {P : Program} {t e : TypeId} {i : TypeInfo} (hU : P.underlying t = some (.slice e)) (hi : P.info? e = some i) (b len cap n : Nat) (x : Int) (hx : x = n) (hn : n ≤ len) :
    ∃ ta, (∀ w, (Instr.slice t (.slice (some ⟨b, 0, none⟩) len cap) (some (.int .i64 x)) none none).run P w = .ok (.slice (some ta) (len - n) (cap - n)) w) ∧ (n < cap → ta = ⟨b, n * i.size, none⟩) := by
  subst hx
  have h1 : ∀ (y : Nat) (_ : n ≤ y) c w, (Instr.sliceBound (.int .i64 (n : Int)) y c).run P w = .ok n w := fun y h c w => by
    simp [Instr.sliceBound, asIntOf, h]
  refine ⟨if cap = n then ⟨b, 0, none⟩ else (⟨b, 0, none⟩ : Addr).add (n * i.size), fun w => ?_, fun h => ?_⟩
  · simp [Instr.slice, Instr.sliceBounds, run_underlying hU, h1 len hn, sizeOf, typeInfo, hi]
    split <;> rfl
  · rw [if_neg (by omega)]
    unfold Addr.add
    split
    · next h => rw [h]
    · simp

theorem enters {F : FuncId} {fn : Func} (h : Tryd.prog.funcs[F]? = some fn) (hn : fn.name ≠ "runtime.NumGoroutine") (hb : fn.body ≠ none) :
    ∀ args w, (callFunc F args).run Tryd.prog w = .ok (.enter F args) w := by
  intro args w
  simp [callFunc, go_sem, h, hn, hb]
end Go.Proofs.YteoihdkaoipocaaDoor
