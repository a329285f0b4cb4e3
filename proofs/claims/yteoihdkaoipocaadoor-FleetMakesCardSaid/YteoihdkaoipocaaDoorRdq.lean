/- fleet.Read: the fleet of a text: what stands in its loop. -/
import Derived.Test.YteoihdkaoipocaaDoorRdp
import Derived.Maps.OwnIn
namespace Go.Proofs.YteoihdkaoipocaaDoor
open Go.RowKit Go.Maps Go.Shelf

/-- a fleet in memory that tells these nodes -/
structure Flt (W : World) (fb mb base : Nat) (vs : List Ndv) : Prop where
  ex : ∃ nv xs, FlW W fb mb base nv xs ∧ xs.map Nde.pl = vs ∧ ∀ x, x ∈ xs → ∀ b off, x.po = some ⟨b, off, none⟩ → base ≤ b
theorem Flt.below {w w' : World} {fb mb base : Nat} {vs : List Ndv} (h : Flt w fb mb base vs) (hb : Below w.heap.size w w') : Flt w' fb mb base vs := by
  obtain ⟨nv, xs, h1, h2, h3⟩ := h.ex
  exact ⟨nv, xs, h1.below hb, h2, h3⟩
theorem flw_keep {w w' : World} {fb mb base : Nat} {nv : Value} {xs : List Nde} {row : Option Nat} (h : FlW w fb mb base nv xs) (hg : w.grownBy w' row) (hm : row ≠ some mb)
    (hp : ∀ x, x ∈ xs → ∀ b off, x.po = some ⟨b, off, none⟩ → base ≤ b) (key : ∀ (k : Nat) (c : Array Value) (T : TypeId) (fr : Nat × Nat), (k = fb ∨ base ≤ k) → w.heap[k]? = some (.cells c T fr) → w'.heap[k]? = some (.cells c T fr)) : FlW w' fb mb base nv xs := by
  refine ⟨key _ _ _ _ (.inl rfl) h.head, ⟨h.row.1, ?_⟩, h.map.kept hg (Ne.symm hm), fun x hx => ?_⟩
  · rcases h.row.2 with h | ⟨g, cap, cur, hv, hgb, hh, hr⟩
    · exact .inl h
    · exact .inr ⟨g, cap, cur, hv, hgb, key _ _ _ _ (.inr hgb) hh, hr⟩
  · have hk : ∀ b off, x.po = some ⟨b, off, none⟩ → ∃ c, w.heap[b]? = some (.cells c 9 (0, 0)) ∧ w'.heap[b]? = some (.cells c 9 (0, 0)) := fun b off e => by
      obtain ⟨c, hc⟩ := (h.ok x hx).2 b off e
      exact ⟨c, hc, key _ _ _ _ (.inr (hp x hx b off e)) hc⟩
    refine ⟨⟨strs_keep (h.ok x hx).1.parts hg.size fun b off e _ => ?_, (h.ok x hx).1.ple⟩, fun b off e => ?_⟩
    · obtain ⟨c, h1, h2⟩ := hk b off e
      rw [h1, h2]
    · obtain ⟨c, _, h2⟩ := hk b off e
      exact ⟨c, h2⟩

theorem readTo_stop (xs : List Ndv) (l m : List (Int × ByteArray)) (h : (readTo xs l).2.1 ≠ 0) : readTo xs (l ++ m) = readTo xs l := by
  induction l generalizing xs with
  | nil => exact absurd rfl h
  | cons x l ih =>
    obtain ⟨i, b⟩ := x
    show readTo xs ((i, b) :: (l ++ m)) = _
    simp only [readTo] at h ⊢
    cases hn : nodeOf b with
    | none => rfl
    | some v =>
      rw [hn] at h
      simp only at h ⊢
      by_cases c : putE (xs.map Ndv.name) xs.length v.name v.parts = 0
      · rw [if_pos c] at h ⊢
        rw [if_pos c]
        exact ih _ h
      · rw [if_neg c, if_neg c]
theorem readTo_bad {xs : List Ndv} {i : Int} {l : ByteArray} (h : nodeOf l = none) : readTo xs [(i, l)] = (xs, 50, i) := by
  simp only [readTo, h]
theorem readTo_put {xs : List Ndv} {i : Int} {l : ByteArray} {v : Ndv} (h : nodeOf l = some v) (hp : putE (xs.map Ndv.name) xs.length v.name v.parts = 0) : readTo xs [(i, l)] = (xs ++ [v], 0, 0) := by
  simp only [readTo, h, if_pos hp]
theorem readTo_not {xs : List Ndv} {i : Int} {l : ByteArray} {v : Ndv} (h : nodeOf l = some v) (hp : putE (xs.map Ndv.name) xs.length v.name v.parts ≠ 0) : readTo xs [(i, l)] = (xs, putE (xs.map Ndv.name) xs.length v.name v.parts, i) := by
  simp only [readTo, h, if_neg hp]

/-- what stands at a round's head -/
structure RdI (w : World) (pre : List (Int × ByteArray)) (W : World) : Prop where
  fl : Flt W (w.heap.size + 4) (w.heap.size + 3) (w.heap.size + 7) (readTo [] pre).1
  ok : (readTo [] pre).2.1 = 0
  low : Below w.heap.size w W
  mx : Mx W
  c0 : W.heap[w.heap.size]? = some (.cells #[.pointer none] 39 (0, 0))
  c1 : W.heap[w.heap.size + 1]? = some (.cells #[.int .i64 0] 29 (0, 0))
  c2 : W.heap[w.heap.size + 2]? = some (.cells #[.int .i64 0] 3 (0, 0))
  fx : W.heap[w.heap.size + 5]? = some (.cells #[.pointer (some ⟨w.heap.size + 4, 0, none⟩)] 39 (0, 0))
  sz : w.heap.size + 7 ≤ W.heap.size
/-- what stands where a round has stopped -/
structure RdX (w : World) (pre : List (Int × ByteArray)) (W : World) : Prop where
  low : Below w.heap.size w W
  bad : (readTo [] pre).2.1 ≠ 0
  c0 : W.heap[w.heap.size]? = some (.cells #[.pointer none] 39 (0, 0))
  c1 : W.heap[w.heap.size + 1]? = some (.cells #[.int .i64 (readTo [] pre).2.1] 29 (0, 0))
  c2 : W.heap[w.heap.size + 2]? = some (.cells #[.int .i64 (readTo [] pre).2.2] 3 (0, 0))
  sz : w.heap.size + 7 ≤ W.heap.size
/-- which block may turn -/
def RdR (w W : World) (row : Option Nat) : Prop := ∀ r, row = some r → r = w.heap.size + 6 ∨ (w.heap.size + 7 ≤ r ∧ ∃ o : Obj, W.heap[r]? = some o ∧ o.isCells = false)
theorem rd_key {w W W' : World} {row : Option Nat} (hg : W.grownBy W' row) (hr : RdR w W row) {k : Nat} {c : Array Value} {T : TypeId} {fr : Nat × Nat} (hk : k ≠ w.heap.size + 6) (h : W.heap[k]? = some (.cells c T fr)) : W'.heap[k]? = some (.cells c T fr) :=
  (hg.block k (blk_lt h) (fun e => by
    rcases hr k e.symm with e | ⟨_, o, ho, hc⟩
    · exact hk e
    · rw [h] at ho; cases ho; simp [Obj.isCells] at hc)).trans h
theorem rd_low {w W W' : World} {row : Option Nat} (hg : W.grownBy W' row) (hr : RdR w W row) (h : Below w.heap.size w W) : Below w.heap.size w W' :=
  h.grown hg h.size (fun k e => by rcases hr k e with e | ⟨e, _⟩ <;> omega)
theorem RdI.grown {w W W' : World} {pre : List (Int × ByteArray)} {row : Option Nat} (h : RdI w pre W) (hg : W.grownBy W' row) (hr : RdR w W row) : RdI w pre W' := by
  obtain ⟨nv, xs, h1, h2, h3⟩ := h.fl.ex
  refine ⟨⟨nv, xs, flw_keep h1 hg (fun e => ?_) h3 (fun k c T fr hk hh => rd_key hg hr (by omega) hh), h2, h3⟩, h.ok, rd_low hg hr h.low, ?_, rd_key hg hr (by omega) h.c0, rd_key hg hr (by omega) h.c1, rd_key hg hr (by omega) h.c2, rd_key hg hr (by omega) h.fx, Nat.le_trans h.sz hg.size⟩
  · rcases hr _ e with e | ⟨e, _⟩ <;> omega
  · refine h.mx.of_blk (hg.block 0 (by have := h.sz; omega) (fun e => ?_))
    rcases hr _ e.symm with e | ⟨e, _⟩ <;> omega
theorem RdX.grown {w W W' : World} {pre : List (Int × ByteArray)} {row : Option Nat} (h : RdX w pre W) (hg : W.grownBy W' row) (hr : RdR w W row) : RdX w pre W' :=
  ⟨rd_low hg hr h.low, h.bad, rd_key hg hr (by omega) h.c0, rd_key hg hr (by omega) h.c1, rd_key hg hr (by omega) h.c2, Nat.le_trans h.sz hg.size⟩
theorem RdI.below {w W W' : World} {pre : List (Int × ByteArray)} (h : RdI w pre W) (hb : Below W.heap.size W W') : RdI w pre W' :=
  ⟨h.fl.below hb, h.ok, h.low.trans (hb.mono h.low.size), h.mx.low hb, blk_below hb h.c0 (blk_lt h.c0), blk_below hb h.c1 (blk_lt h.c1), blk_below hb h.c2 (blk_lt h.c2), blk_below hb h.fx (blk_lt h.fx), Nat.le_trans h.sz hb.size⟩
theorem keeps_below {B : Nat} {W W' : World} (hb : Below W.heap.size W W') : KeepsFrom B W W' := ⟨hb.size, fun _ _ _ hk _ => blk_below hb hk (blk_lt hk)⟩
theorem keeps_set {B : Nat} {W W' : World} {b o : Nat} {v : Value} (h : KeepsFrom B W W') (hb : b < B) : KeepsFrom B W (W'.setCell ⟨b, o, none⟩ v) :=
  ⟨by have := h.size; simpa [World.setCell] using this, fun k ob hk hh ho => blk_set_other (by omega) _ (h.same k ob hk hh ho)⟩
theorem PutK.keeps {fb mb base lo B : Nat} {W W' : World} (h : PutK fb mb base lo W W') (hf : fb < B) (hm : mb < B) (hs : W.heap.size ≤ W'.heap.size) : KeepsFrom B W W' :=
  ⟨hs, fun k o hk hh ho => h.same k o hh (by omega) (by omega) (.inr fun c fr e => by rw [e] at ho; simp [Obj.isCells] at ho)⟩
theorem PutK.blk {fb mb base lo k : Nat} {W W' : World} (h : PutK fb mb base lo W W') (hk : k < W.heap.size) (hf : k ≠ fb) (hm : k ≠ mb) (hb : k < base) : W'.heap[k]? = W.heap[k]? := by
  obtain ⟨o, ho⟩ : ∃ o, W.heap[k]? = some o := ⟨_, Array.getElem?_eq_getElem hk⟩
  rw [ho]
  exact h.same k o ho hm hf (.inl hb)
end Go.Proofs.YteoihdkaoipocaaDoor
