/- Nodes that are written line by line are read as these nodes, or one too many is refused: plain. -/
import Derived.Test.YteoihdkaoipocaaDoorPbk
namespace Go.Proofs.YteoihdkaoipocaaDoor
open Go.RowKit

structure Mk (vs : List Ndv) : Prop where
  all : ∀ v, v ∈ vs → NdvAll v
  nodup : (vs.map Ndv.name).Nodup
theorem mk_nil : Mk [] := ⟨fun v h => (by cases h), by simp⟩
theorem Mk.flt {vs : List Ndv} (h : Mk vs) (hl : vs.length ≤ 16) : FltOk vs := ⟨hl, h.all, h.nodup⟩
theorem Mk.step {vs : List Ndv} {k : Nat} {v : Ndv} (h : Mk (vs.take k)) (hv : vs[k]? = some v) (ha : NdvAll v) (hd : ∀ j u, j < k → vs[j]? = some u → u.name ≠ v.name) : Mk (vs.take (k + 1)) := by
  have e : vs.take (k + 1) = vs.take k ++ [v] := by rw [List.take_add_one, hv]; rfl
  rw [e]
  refine ⟨fun u hu => ?_, ?_⟩
  · rcases List.mem_append.1 hu with hu | hu
    · exact h.all u hu
    · rw [List.mem_singleton.1 hu]; exact ha
  · rw [List.map_append, List.nodup_append]
    refine ⟨h.nodup, by simp, fun a ha b hb => ?_⟩
    obtain ⟨u, hu, rfl⟩ := List.mem_map.1 ha
    obtain ⟨j, hj, e⟩ := List.mem_take_iff_getElem.1 hu
    have hb' : b = v.name := by simpa using hb
    rw [hb']
    exact hd j u (by omega) (by rw [List.getElem?_eq_getElem (by omega), e])
theorem text_step {vs : List Ndv} {k : Nat} {v : Ndv} (hv : vs[k]? = some v) : textOf (vs.take (k + 1)) = textOf (vs.take k) ++ lineV v := by
  rw [List.take_add_one, hv]
  unfold textOf
  rw [List.flatMap_append]
  simp
theorem putE_mk {xs : List Ndv} {v : Ndv} {r : List Ndv} (h : Mk (xs ++ v :: r)) : putE (xs.map Ndv.name) xs.length v.name v.parts = if 16 ≤ xs.length then 2 else 0 := by
  have hv := h.all v (by simp)
  have hn := h.nodup
  rw [List.map_append, List.map_cons, List.nodup_append] at hn
  have hf := hv.few
  unfold putE
  rw [if_neg (fun c => (hn.2.2 _ (memB_iff.1 c) _ (List.mem_cons_self ..)) rfl), if_neg (by rw [hv.once]; simp)]
  by_cases h16 : 16 ≤ xs.length
  · rw [if_pos (Or.inl h16), if_pos h16]
  · rw [if_neg (by omega), if_neg h16]
theorem read_many : ∀ (r xs : List Ndv), Mk (xs ++ r) → xs.length ≤ 16 → 16 < (xs ++ r).length → (readTo xs (said xs.length (cutAll 10 (textOf r)))).2 = (2, 17)
  | [], xs, _, h1, h2 => by
    rw [List.append_nil] at h2
    omega
  | v :: r, xs, h, h1, h2 => by
    have hv := h.all v (by simp)
    have e : textOf (v :: r) = bodyV v ++ 10 :: textOf r := by
      unfold textOf
      rw [List.flatMap_cons, lineV_body hv]
      simp
    rw [e, cutAll_hit (body_not hv)]
    simp only [said]
    rw [if_pos (body_says hv)]
    simp only [readTo, nodeOf_body hv]
    by_cases h16 : 16 ≤ xs.length
    · rw [putE_mk h, if_pos h16, if_neg (by decide)]
      have e16 : xs.length = 16 := by omega
      rw [e16]
      rfl
    · rw [putE_mk h, if_neg h16, if_pos rfl]
      have := read_many r (xs ++ [v]) (by simpa using h) (by simp; omega) (by simpa using h2)
      rw [show (xs ++ [v]).length = xs.length + 1 by simp] at this
      exact this
theorem readOf_long {vs : List Ndv} (h : 4096 < (ofL (textOf vs)).size) : readOf (ofL (textOf vs)) = ([], 2, 0) := by
  unfold readOf
  rw [if_pos h]
theorem readOf_many {vs : List Ndv} (h : Mk vs) (hl : ¬ 4096 < (ofL (textOf vs)).size) (hn : 16 < vs.length) : (readOf (ofL (textOf vs))).2 = (2, 17) := by
  unfold readOf
  rw [if_neg hl]
  unfold linesOf
  rw [ofL_toL]
  exact read_many vs [] (by simpa using h) (by simp) (by simpa using hn)
end Go.Proofs.YteoihdkaoipocaaDoor
