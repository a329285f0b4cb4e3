/- What a fleet answers, plain: places of a part, what its nodes have, the parts. -/
import Derived.Test.YteoihdkaoipocaaDoorRdq
import Derived.Test.YteoihdkaoipocaaDoorShelf
namespace Go.Proofs.YteoihdkaoipocaaDoor
open Go.RowKit Go.Maps Go.Shelf

/-- where a part's nodes stand -/
def inFrom : Nat → List Ndv → ByteArray → List Int
  | _, [], _ => []
  | k, v :: vs, p => if memB v.parts p = true then (k : Int) :: inFrom (k + 1) vs p else inFrom (k + 1) vs p
def inOf (vs : List Ndv) (p : ByteArray) : List Int := inFrom 0 vs p
theorem inFrom_app (a b : List Ndv) (p : ByteArray) (k : Nat) : inFrom k (a ++ b) p = inFrom k a p ++ inFrom (k + a.length) b p := by
  induction a generalizing k with
  | nil => simp [inFrom]
  | cons v a ih =>
    simp only [List.cons_append, inFrom, List.length_cons]
    rw [ih, show k + 1 + a.length = k + (a.length + 1) by omega]
    split <;> simp
theorem take_step {α : Type} {l : List α} {k : Nat} {x : α} (h : l[k]? = some x) : l.take (k + 1) = l.take k ++ [x] := by
  rw [List.take_add_one, h]; rfl
theorem inOf_step {vs : List Ndv} {k : Nat} {v : Ndv} (p : ByteArray) (h : vs[k]? = some v) : inOf (vs.take (k + 1)) p = inOf (vs.take k) p ++ (if memB v.parts p = true then [(k : Int)] else []) := by
  have hk := (List.getElem?_eq_some_iff.1 h).1
  unfold inOf
  rw [take_step h, inFrom_app, List.length_take, Nat.min_eq_left (by omega), Nat.zero_add]
  simp only [inFrom]
theorem inOf_yes {vs : List Ndv} {k : Nat} {v : Ndv} {p : ByteArray} (h : vs[k]? = some v) (hm : memB v.parts p = true) : inOf (vs.take (k + 1)) p = inOf (vs.take k) p ++ [(k : Int)] := by
  rw [inOf_step p h, if_pos hm]
theorem inOf_no {vs : List Ndv} {k : Nat} {v : Ndv} {p : ByteArray} (h : vs[k]? = some v) (hm : memB v.parts p = false) : inOf (vs.take (k + 1)) p = inOf (vs.take k) p := by
  rw [inOf_step p h, if_neg (by rw [hm]; simp), List.append_nil]
theorem inFrom_len (vs : List Ndv) (p : ByteArray) (k : Nat) : (inFrom k vs p).length ≤ vs.length := by
  induction vs generalizing k with
  | nil => simp [inFrom]
  | cons v vs ih =>
    have := ih (k + 1)
    simp only [inFrom]
    split <;> simp <;> omega
theorem inOf_len (vs : List Ndv) (p : ByteArray) : (inOf vs p).length ≤ vs.length := inFrom_len vs p 0

/-- what a part's nodes have -/
def addV (a b : V4) : V4 := ⟨a.a + b.a, a.b + b.b, a.c + b.c, a.d + b.d⟩
def counts (v : Ndv) (p : ByteArray) : Bool := p.toList.isEmpty || memB v.parts p
def totOf (vs : List Ndv) (p : ByteArray) : V4 := vs.foldl (fun a v => if counts v p = true then addV a v.cap else a) V4.zero
theorem totOf_step {vs : List Ndv} {k : Nat} {v : Ndv} (p : ByteArray) (h : vs[k]? = some v) : totOf (vs.take (k + 1)) p = if counts v p = true then addV (totOf (vs.take k) p) v.cap else totOf (vs.take k) p := by
  unfold totOf
  rw [take_step h, List.foldl_append]
  rfl
/-- may an amount be? -/
structure CapOk (v : V4) : Prop where
  a0 : 0 ≤ v.a
  a1 : v.a ≤ 1073741824
  b0 : 0 ≤ v.b
  b1 : v.b ≤ 1073741824
  c0 : 0 ≤ v.c
  c1 : v.c ≤ 1073741824
  d0 : 0 ≤ v.d
  d1 : v.d ≤ 1073741824
structure UpTo (v : V4) (n : Nat) : Prop where
  a0 : 0 ≤ v.a
  a1 : v.a ≤ 1073741824 * n
  b0 : 0 ≤ v.b
  b1 : v.b ≤ 1073741824 * n
  c0 : 0 ≤ v.c
  c1 : v.c ≤ 1073741824 * n
  d0 : 0 ≤ v.d
  d1 : v.d ≤ 1073741824 * n
theorem totOf_upto {vs : List Ndv} (p : ByteArray) (h : ∀ v, v ∈ vs → CapOk v.cap) : UpTo (totOf vs p) vs.length := by
  induction vs using rev_ind with
  | h0 => constructor <;> simp [totOf, V4.zero]
  | h1 l x ih =>
    have hl := ih fun v hv => h v (by simp [hv])
    have hx := h x (by simp)
    have e : totOf (l ++ [x]) p = if counts x p = true then addV (totOf l p) x.cap else totOf l p := by unfold totOf; rw [List.foldl_append]; rfl
    rw [e, List.length_append, List.length_cons, List.length_nil]
    obtain ⟨p1, p2, p3, p4, p5, p6, p7, p8⟩ := hl
    obtain ⟨q1, q2, q3, q4, q5, q6, q7, q8⟩ := hx
    split <;> constructor <;> (try simp only [addV]) <;> omega

/-- the parts -/
def rawParts (vs : List Ndv) : List ByteArray := vs.flatMap Ndv.parts
def partsOf (vs : List Ndv) : List (List UInt8) := Lib.compact (((rawParts vs).map (·.data.toList)).mergeSort fun x y => decide (x ≤ y))
theorem rawParts_step {vs : List Ndv} {k : Nat} {v : Ndv} (h : vs[k]? = some v) : rawParts (vs.take (k + 1)) = rawParts (vs.take k) ++ v.parts := by
  unfold rawParts
  rw [take_step h, List.flatMap_append]
  simp
end Go.Proofs.YteoihdkaoipocaaDoor
