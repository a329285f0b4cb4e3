/- A fleet in memory: its nodes' row and its map of names. -/
import Derived.Test.YteoihdkaoipocaaDoorNod
import Derived.Maps.OwnSet
import Derived.Maps.OwnOps
import Derived.Maps.Own
namespace Go.Proofs.YteoihdkaoipocaaDoor
open Go.RowKit Go.Maps

/-- things laid one behind the other -/
def flatv {α : Type} (cells : α → Array Value) (xs : List α) : List Value := xs.flatMap fun x => (cells x).toList
theorem flatv_append {α : Type} (cells : α → Array Value) (xs ys : List α) : flatv cells (xs ++ ys) = flatv cells xs ++ flatv cells ys := by simp [flatv]
theorem flatv_one {α : Type} (cells : α → Array Value) (x : α) : flatv cells [x] = (cells x).toList := by simp [flatv]
theorem flatv_get {α : Type} {cells : α → Array Value} {sz : Nat} (hsz : ∀ x, (cells x).size = sz) (xs : List α) {i j : Nat} {x : α} (hx : xs[i]? = some x) (hj : j < sz) : (flatv cells xs)[i * sz + j]? = (cells x)[j]? := by
  induction xs generalizing i with
  | nil => simp at hx
  | cons y ys ih =>
    have hy := hsz y
    rw [show flatv cells (y :: ys) = (cells y).toList ++ flatv cells ys from by simp [flatv]]
    cases i with
    | zero =>
      have e : x = y := by simpa using hx.symm
      subst e
      rw [List.getElem?_append_left (by simp; omega)]
      simp
    | succ i =>
      have hx' : ys[i]? = some x := by simpa using hx
      rw [List.getElem?_append_right (by simp [hy, Nat.add_mul]; omega)]
      have := ih hx'
      rw [show (i + 1) * sz + j - (cells y).toList.length = i * sz + j by simp [hy, Nat.add_mul]; omega, this]
theorem nde_size (x : Nde) : x.cells.size = 6 := rfl

/-- what a row of names reads as, each with its place -/
abbrev DU := DataW Unit
def keyB (s : ByteArray) : Lit := .string s.data.toList
def mapD (ns : List ByteArray) : DU := (ns.zipIdx).foldl (fun m p => m.put (keyB p.1) (.lit (.int .i64 (p.2 : Int)))) (.map [])
theorem mapD_snoc (ns : List ByteArray) (x : ByteArray) : mapD (ns ++ [x]) = (mapD ns).put (keyB x) (.lit (.int .i64 (ns.length : Int))) := by
  unfold mapD
  rw [List.zipIdx_append, List.foldl_append]
  simp
theorem keyB_inj {a b : ByteArray} (h : keyB a = keyB b) : a = b := by
  unfold keyB at h
  injection h with h
  exact toL_inj h
theorem keyB_lit (s : ByteArray) : WideAt.IsKeyLit (keyB s) := trivial
theorem rev_ind {α : Type} {p : List α → Prop} (h0 : p []) (h1 : ∀ l x, p l → p (l ++ [x])) : ∀ l, p l := by
  intro l
  have key : ∀ n (l : List α), l.length = n → p l := by
    intro n
    induction n with
    | zero => intro l hl; rw [List.length_eq_zero_iff.1 hl]; exact h0
    | succ n ih =>
      intro l hl
      cases h : l.reverse with
      | nil => have := congrArg List.length h; simp at this; rw [this] at hl; cases hl
      | cons x r =>
        have e : l = r.reverse ++ [x] := by rw [← List.reverse_reverse l, h]; simp
        rw [e] at hl ⊢
        exact h1 _ _ (ih _ (by simpa using hl))
  exact key _ l rfl
theorem mapD_isMap (ns : List ByteArray) : IsMap (mapD ns) := by
  induction ns using rev_ind with
  | h0 => exact isMap_empty
  | h1 l x ih => rw [mapD_snoc]; exact ih.put _ _
theorem mapD_has (ns : List ByteArray) (s : ByteArray) : has (mapD ns) (keyB s) = true ↔ s ∈ ns := by
  induction ns using rev_ind with
  | h0 => simp [mapD, has]
  | h1 l x ih =>
    rw [mapD_snoc]
    by_cases e : s = x
    · subst e
      rw [has_put_same (mapD_isMap l) (keyB_lit _)]; simp
    · rw [has_put_other (fun c => e (keyB_inj c)), ih]
      simp [e]
theorem mapD_at (ns : List ByteArray) (s : ByteArray) (i : Nat) (hi : ns[i]? = some s) (hl : ∀ j, i < j → ns[j]? ≠ some s) (z : DU) : (mapD ns).atKey (keyB s) z = .lit (.int .i64 (i : Int)) := by
  induction ns using rev_ind with
  | h0 => simp at hi
  | h1 l x ih =>
    rw [mapD_snoc]
    have hlen := (List.getElem?_eq_some_iff.1 hi).1
    simp at hlen
    by_cases c : i = l.length
    · have e : s = x := by rw [c] at hi; simpa using hi.symm
      subst e
      rw [atKey_put_same (mapD_isMap l) (keyB_lit _), c]
    · have hx : s ≠ x := fun e => hl l.length (by omega) (by rw [e]; simp)
      rw [atKey_put_other (fun c => hx (keyB_inj c))]
      refine ih (by rw [List.getElem?_append_left (by omega)] at hi; exact hi) fun j hj h => ?_
      have hjl := (List.getElem?_eq_some_iff.1 h).1
      exact hl j hj (by rw [List.getElem?_append_left hjl]; exact h)

/-- a node's parts lie in a row of texts -/
def PartsAt (W : World) (x : Nde) : Prop := ∀ b off, x.po = some ⟨b, off, none⟩ → ∃ c, W.heap[b]? = some (.cells c 9 (0, 0))
/-- a fleet in memory -/
structure FlW (W : World) (fb mb base : Nat) (nv : Value) (xs : List Nde) : Prop where
  head : W.heap[fb]? = some (.cells #[nv, .map (some mb)] 107 (0, 0))
  row : W.ownsRow base 48 6 nv xs.length (flatv Nde.cells xs)
  map : W.ownsMap Tryd.prog 9 (plainElem (H := Unit) Tryd.prog 3) mb xs.length (mapD (xs.map Nde.name))
  ok : ∀ x, x ∈ xs → x.ok W ∧ PartsAt W x
theorem strs_keep {w w' : World} {so : Option Addr} {n : Nat} {xs : List ByteArray} (h : StrsAt w so n xs) (hsz : w.heap.size ≤ w'.heap.size) (hb : ∀ b off, so = some ⟨b, off, none⟩ → b < w.heap.size → w'.heap[b]? = w.heap[b]?) : StrsAt w' so n xs :=
  ⟨h.len, h.max, fun i x hx => by
    obtain ⟨b, off, e, hlt, hc⟩ := h.cell i x hx
    exact ⟨b, off, e, by omega, (World.cell?_of_block (a := ⟨b, off + i, none⟩) (w := w) (hb b off e hlt)).trans hc⟩⟩
theorem FlW.below {w w' : World} {fb mb base : Nat} {nv : Value} {xs : List Nde} (h : FlW w fb mb base nv xs) (hb : Below w.heap.size w w') : FlW w' fb mb base nv xs := by
  refine ⟨blk_below hb h.head (blk_lt h.head), ⟨h.row.1, ?_⟩, ?_, fun x hx => ⟨(h.ok x hx).1.low hb, fun b off e => ?_⟩⟩
  · rcases h.row.2 with h | ⟨g, cap, cur, hv, hg, hh, hr⟩
    · exact .inl h
    · exact .inr ⟨g, cap, cur, hv, hg, blk_below hb hh (blk_lt hh), hr⟩
  · exact h.map.kept (row := none) ⟨hb.os, hb.tape, hb.output, hb.size, fun k hk _ => hb.block k hk⟩ (by simp)
  · obtain ⟨c, hc⟩ := (h.ok x hx).2 b off e
    exact ⟨c, blk_below hb hc (blk_lt hc)⟩
theorem FlW.cell {W : World} {fb mb base : Nat} {nv : Value} {xs : List Nde} (h : FlW W fb mb base nv xs) {k : Nat} {x : Nde} (hx : xs[k]? = some x) : ∃ g, nv.ownBlock = some g ∧ g < W.heap.size ∧ base ≤ g ∧ ∀ j, j < 6 → W.cell? ⟨g, k * 6 + j, none⟩ = (x.cells)[j]? := by
  have hk := (List.getElem?_eq_some_iff.1 hx).1
  rcases h.row.2 with ⟨hv, h0⟩ | ⟨g, cap, cur, hv, hg, hh, hr⟩
  · have : xs.length = 0 := h0
    omega
  · subst hv
    refine ⟨g, rfl, blk_lt hh, hg, fun j hj => ?_⟩
    rw [World.ownsRow.cellAt h.row (k * 6 + j) (by
      have : (k + 1) * 6 ≤ xs.length * 6 := Nat.mul_le_mul_right _ (by omega)
      omega), flatv_get nde_size xs hx hj]
end Go.Proofs.YteoihdkaoipocaaDoor
