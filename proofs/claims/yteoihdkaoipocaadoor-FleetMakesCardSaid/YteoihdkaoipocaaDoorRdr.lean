/- fleet.Read: the fleet of a text: what its stores and its puts leave. -/
import Derived.Test.YteoihdkaoipocaaDoorRdq
import Derived.Maps.OwnIn
namespace Go.Proofs.YteoihdkaoipocaaDoor
open Go.RowKit Go.Maps Go.Shelf

theorem said_le (n : Nat) (ps : List (List UInt8)) : ∀ x, x ∈ said n ps → ∃ p, p ∈ ps ∧ x.2 = ofL p := by
  induction ps generalizing n with
  | nil => intro x hx; simp [said] at hx
  | cons p ps ih =>
    intro x hx
    simp only [said] at hx
    have key : x ∈ said (n + 1) ps → ∃ q, q ∈ p :: ps ∧ x.2 = ofL q := fun h => by
      obtain ⟨q, h1, h2⟩ := ih _ x h
      exact ⟨q, List.mem_cons_of_mem _ h1, h2⟩
    split at hx
    · rcases List.mem_cons.1 hx with rfl | h
      · exact ⟨p, List.mem_cons_self .., rfl⟩
      · exact key h
    · exact key hx
theorem lines_le {s : ByteArray} {x : Int × ByteArray} (h : x ∈ linesOf s) : x.2.size ≤ s.size := by
  obtain ⟨p, h1, h2⟩ := said_le 0 _ x h
  have := cutAll_le h1
  rw [h2, ofL_size, ← toL_len s]
  exact this
/-- what is known of a line's node -/
structure NdvOk (v : Ndv) : Prop where
  name : isName v.name = true
  parts : ∀ p, p ∈ v.parts → isName p = true
  one : 1 ≤ v.parts.length
  cap : v.cap.right = true
theorem isName_le {s : ByteArray} (h : isName s = true) : s.size ≤ 16 := by
  simp only [isName, Bool.and_eq_true, decide_eq_true_eq] at h
  exact h.1.2
theorem nodeOf_ok {s : ByteArray} {v : Ndv} (h : nodeOf s = some v) : NdvOk v := by
  by_cases c : nodeOk s
  · rw [nodeOf_yes c] at h
    cases h
    obtain ⟨h1, h2, h3, h4⟩ := c
    refine ⟨h2, h3, by simp; omega, ?_⟩
    show (vecOf (wrd s 1)).1.right = true
    unfold vecOf at h4 ⊢
    split at h4
    · next hl =>
      rw [if_pos hl]
      unfold V4.told at h4 ⊢
      split at h4
      · next hr => rw [if_pos hr]; exact hr
      · cases h4
    · cases h4
  · rw [nodeOf_no c] at h; cases h
theorem nodeOf_parts {s : ByteArray} {v : Ndv} (h : nodeOf s = some v) : v.parts.length ≤ s.size + 1 := by
  by_cases c : nodeOk s
  · rw [nodeOf_yes c] at h
    cases h
    have := words_many s
    simp
    omega
  · rw [nodeOf_no c] at h; cases h
theorem readTo_zero (xs : List Ndv) (l : List (Int × ByteArray)) (h : (readTo xs l).2.1 = 0) : (readTo xs l).2.2 = 0 := by
  induction l generalizing xs with
  | nil => rfl
  | cons x l ih =>
    obtain ⟨i, b⟩ := x
    simp only [readTo] at h ⊢
    cases hn : nodeOf b with
    | none => rw [hn] at h; simp at h
    | some v =>
      rw [hn] at h
      simp only at h ⊢
      by_cases c : putE (xs.map Ndv.name) xs.length v.name v.parts = 0
      · rw [if_pos c] at h ⊢
        exact ih _ h
      · rw [if_neg c] at h
        exact absurd h c

/-- three results stored -/
structure S3 (R : Nat) (W W' : World) (p : Value) (e i : Int) : Prop where
  size : W'.heap.size = W.heap.size
  c0 : W'.heap[R]? = some (.cells #[p] 39 (0, 0))
  c1 : W'.heap[R + 1]? = some (.cells #[.int .i64 e] 29 (0, 0))
  c2 : W'.heap[R + 2]? = some (.cells #[.int .i64 i] 3 (0, 0))
  other : ∀ (k : Nat) (o : Obj), W.heap[k]? = some o → k ≠ R → k ≠ R + 1 → k ≠ R + 2 → W'.heap[k]? = some o
  low : ∀ w, Below R w W → Below R w W'
  back : ∀ (k : Nat), k ≠ R → k ≠ R + 1 → k ≠ R + 2 → W'.heap[k]? = W.heap[k]?
theorem heap_set_other {W : World} {b o k : Nat} {v : Value} (h : k ≠ b) : (W.setCell ⟨b, o, none⟩ v).heap[k]? = W.heap[k]? := Below.heap_setCell _ _ _ _ h
theorem s3_of {R : Nat} {W : World} {a b c : Value} (h0 : W.heap[R]? = some (.cells #[a] 39 (0, 0))) (h1 : W.heap[R + 1]? = some (.cells #[b] 29 (0, 0))) (h2 : W.heap[R + 2]? = some (.cells #[c] 3 (0, 0))) (p : Value) (e i : Int) :
    S3 R W (((W.setCell ⟨R, 0, none⟩ p).setCell ⟨R + 1, 0, none⟩ (.int .i64 e)).setCell ⟨R + 2, 0, none⟩ (.int .i64 i)) p e i := by
  have back : ∀ (k : Nat), k ≠ R → k ≠ R + 1 → k ≠ R + 2 → (((W.setCell ⟨R, 0, none⟩ p).setCell ⟨R + 1, 0, none⟩ (.int .i64 e)).setCell ⟨R + 2, 0, none⟩ (.int .i64 i)).heap[k]? = W.heap[k]? := fun k k0 k1 k2 =>
    (heap_set_other k2).trans ((heap_set_other k1).trans (heap_set_other k0))
  refine ⟨by simp [World.setCell], ?_, ?_, ?_, fun k o hk k0 k1 k2 => (back k k0 k1 k2).trans hk, fun w h => ((h.setCell (Nat.le_refl _) _).setCell (Nat.le_succ _) _).setCell (Nat.le_add_right _ _) _, back⟩
  · rw [heap_set_other (by omega), heap_set_other (by omega), blk_set h0]; rfl
  · rw [heap_set_other (by omega), blk_set (c := #[b]) (T := 29) (fr := (0, 0)) ((heap_set_other (by omega)).trans h1)]; rfl
  · rw [blk_set (c := #[c]) (T := 3) (fr := (0, 0)) ((heap_set_other (by omega)).trans ((heap_set_other (by omega)).trans h2))]; rfl
theorem Flt.other {W W' : World} {fb mb base : Nat} {vs : List Ndv} (h : Flt W fb mb base vs) (hsz : W.heap.size ≤ W'.heap.size) (key : ∀ (k : Nat) (o : Obj), W.heap[k]? = some o → k = fb ∨ k = mb ∨ (base ≤ k ∧ o.isCells = true) → W'.heap[k]? = some o) : Flt W' fb mb base vs := by
  obtain ⟨nv, xs, h1, h2, h3⟩ := h.ex
  refine ⟨nv, xs, ⟨key _ _ h1.head (.inl rfl), ⟨h1.row.1, ?_⟩, ?_, fun x hx => ?_⟩, h2, h3⟩
  · rcases h1.row.2 with h | ⟨g, cap, cur, hv, hgb, hh, hr⟩
    · exact .inl h
    · exact .inr ⟨g, cap, cur, hv, hgb, key _ _ hh (.inr (.inr ⟨hgb, rfl⟩)), hr⟩
  · obtain ⟨es, clock, hb, hr⟩ := h1.map
    exact ⟨es, clock, key _ _ hb (.inr (.inl rfl)), hr⟩
  · have hk : ∀ b off, x.po = some ⟨b, off, none⟩ → ∃ c, W.heap[b]? = some (.cells c 9 (0, 0)) ∧ W'.heap[b]? = some (.cells c 9 (0, 0)) := fun b off e => by
      obtain ⟨c, hc⟩ := (h1.ok x hx).2 b off e
      exact ⟨c, hc, key _ _ hc (.inr (.inr ⟨h3 x hx b off e, rfl⟩))⟩
    refine ⟨⟨strs_keep (h1.ok x hx).1.parts hsz fun b off e _ => ?_, (h1.ok x hx).1.ple⟩, fun b off e => ?_⟩
    · obtain ⟨c, h1, h2⟩ := hk b off e
      rw [h1, h2]
    · obtain ⟨c, _, h2⟩ := hk b off e
      exact ⟨c, h2⟩
/-- behind a put that was taken -/
theorem rd_put {w W3 w4 : World} {pre : List (Int × ByteArray)} {i : Int} {ln : ByteArray} {nv' : Value} {xs : List Nde} {x : Nde} (hI : RdI w pre W3) (h2 : xs.map Nde.pl = (readTo [] pre).1)
    (h3 : ∀ y, y ∈ xs → ∀ b off, y.po = some ⟨b, off, none⟩ → w.heap.size + 7 ≤ b) (hs : nodeOf ln = some x.pl) (hpo : ∀ b off, x.po = some ⟨b, off, none⟩ → w.heap.size + 7 ≤ b)
    (hE : putE (xs.map Nde.name) xs.length x.name x.parts = 0) (hF : FlW w4 (w.heap.size + 4) (w.heap.size + 3) (w.heap.size + 7) nv' (xs ++ [x]))
    (hK : PutK (w.heap.size + 4) (w.heap.size + 3) (w.heap.size + 7) w.heap.size W3 w4) (hpos : 0 < w.heap.size) : RdI w (pre ++ [(i, ln)]) w4 := by
  have hsz := hI.sz
  have h4 := hK.low.size
  have hns : xs.map Nde.name = (readTo [] pre).1.map Ndv.name := by rw [← h2, List.map_map]; rfl
  have hln : xs.length = (readTo [] pre).1.length := by rw [← h2, List.length_map]
  have hr : readTo [] (pre ++ [(i, ln)]) = ((readTo [] pre).1 ++ [x.pl], 0, 0) := by
    rw [readTo_app _ _ _ hI.ok, readTo_put hs]
    rw [hns, hln] at hE
    exact hE
  have kp : ∀ {k : Nat} {o : Obj}, W3.heap[k]? = some o → k ≠ w.heap.size + 4 → k ≠ w.heap.size + 3 → k < w.heap.size + 7 → w4.heap[k]? = some o := fun hk a b c => hK.same _ _ hk b a (.inl c)
  refine ⟨⟨nv', xs ++ [x], hF, by rw [hr, List.map_append, h2]; rfl, fun y hy => ?_⟩, by rw [hr], hI.low.trans hK.low, ?_, kp hI.c0 (by omega) (by omega) (by omega), kp hI.c1 (by omega) (by omega) (by omega), kp hI.c2 (by omega) (by omega) (by omega), kp hI.fx (by omega) (by omega) (by omega), by omega⟩
  · rcases List.mem_append.1 hy with h | h
    · exact h3 y h
    · have : y = x := by simpa using h
      subst this
      exact hpo
  · exact hI.mx.of_blk (hK.low.block 0 hpos)
/-- behind a put that was not taken -/
theorem rd_not {w W3 w4 : World} {pre : List (Int × ByteArray)} (hI : RdI w pre W3)
    (hK : PutK (w.heap.size + 4) (w.heap.size + 3) (w.heap.size + 7) w.heap.size W3 w4) :
    w4.heap[w.heap.size]? = some (.cells #[.pointer none] 39 (0, 0)) ∧ w4.heap[w.heap.size + 1]? = some (.cells #[.int .i64 0] 29 (0, 0)) ∧ w4.heap[w.heap.size + 2]? = some (.cells #[.int .i64 0] 3 (0, 0)) ∧ Below w.heap.size w w4 ∧ W3.heap.size ≤ w4.heap.size := by
  have kp : ∀ {k : Nat} {o : Obj}, W3.heap[k]? = some o → k ≠ w.heap.size + 4 → k ≠ w.heap.size + 3 → k < w.heap.size + 7 → w4.heap[k]? = some o := fun hk a b c => hK.same _ _ hk b a (.inl c)
  exact ⟨kp hI.c0 (by omega) (by omega) (by omega), kp hI.c1 (by omega) (by omega) (by omega), kp hI.c2 (by omega) (by omega) (by omega), hI.low.trans hK.low, hK.low.size⟩
end Go.Proofs.YteoihdkaoipocaaDoor
