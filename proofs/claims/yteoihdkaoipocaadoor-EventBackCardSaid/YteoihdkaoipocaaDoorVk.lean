/- Parts Ev1, Ev2, Evm in one text. Plain theorems: no condition. -/
import Derived.Test.YteoihdkaoipocaaDoorVh
import Derived.Test.YteoihdkaoipocaaDoorVd
/- Events as bytes, there and back: plain. Plain theorems: no condition. -/
namespace Go.Proofs.YteoihdkaoipocaaDoor
open Go.RowKit

theorem unzz0 : unzz 0 = 0 := by decide
theorem intR_err {l : List UInt8} {e : Int} (h : e ≠ 0) : intR l e = (0, l, e) := by
  unfold intR uintR
  rw [if_neg h]
  show (unzz 0, l, e) = _
  rw [unzz0]
theorem intR_enc {v : Int} (h1 : -9223372036854775808 ≤ v) (h2 : v ≤ 9223372036854775807) (r : List UInt8) : intR (uintB (zz v) ++ r) 0 = (v, r, 0) := by
  unfold intR uintR
  rw [if_pos rfl, decU_enc _ 0 0 r (by have := zz_lt h1 h2; omega) (by omega) (by omega)]
  show (unzz (0 + zz v * 128 ^ 0), r, (0 : Int)) = _
  rw [Nat.zero_add, Nat.pow_zero, Nat.mul_one, unzz_zz]
theorem intR_short {v : Int} (h1 : -9223372036854775808 ≤ v) (h2 : v ≤ 9223372036854775807) {p q : List UInt8} (h : p ++ q = uintB (zz v)) (hq : q ≠ []) : intR p 0 = (0, [], 10) := by
  unfold intR uintR
  rw [if_pos rfl, decU_short _ 0 0 p q (by have := zz_lt h1 h2; omega) (by omega) (by omega) h hq]
  rfl
theorem uintR_can {l r : List UInt8} {u : Nat} (h : uintR l 0 = (u, r, 0)) : l = uintB u ++ r := by
  unfold uintR at h
  rw [if_pos rfl] at h
  obtain ⟨n, hv, hl, _, _⟩ := decU_can l 0 0 u r (by omega) h
  have e : u = n := by rw [hv]; simp
  rw [e]
  exact hl
theorem intR_can {l r : List UInt8} {v : Int} (h : intR l 0 = (v, r, 0)) : l = uintB (zz v) ++ r := by
  unfold intR at h
  simp only [Prod.mk.injEq] at h
  obtain ⟨h1, h2, h3⟩ := h
  have := uintR_can (l := l) (r := r) (u := (uintR l 0).1) (Prod.ext rfl (Prod.ext h2 h3))
  rw [← h1, zz_unzz]
  exact this
theorem uintR_enc {u : Nat} (h : u < 18446744073709551616) (r : List UInt8) : uintR (uintB u ++ r) 0 = (u, r, 0) := by
  unfold uintR
  rw [if_pos rfl, decU_enc _ 0 0 r (by omega) (by omega) (by omega)]
  simp
theorem textR_enc {t : List UInt8} (ht : t.length ≤ 4096) (r : List UInt8) : textR (uintB t.length ++ t ++ r) 0 4096 = (t, r, 0) := by
  have h1 : cntR (uintB t.length ++ t ++ r) 0 4096 = (t.length, t ++ r, 0) := by
    unfold cntR
    rw [List.append_assoc, uintR_enc (by omega), if_neg (by simp; omega)]
  unfold textR
  rw [h1, if_neg (by simp), if_neg (by simp)]
  simp
theorem pre_split {α : Type} {p q a b : List α} (h : p ++ q = a ++ b) : (∃ q', p ++ q' = a ∧ q' ≠ [] ∧ q = q' ++ b) ∨ (∃ p', p = a ++ p' ∧ p' ++ q = b) := by
  rcases List.append_eq_append_iff.1 h with ⟨a', h1, h2⟩ | ⟨c', h1, h2⟩
  · by_cases ha : a' = []
    · subst ha
      exact .inr ⟨[], by rw [h1]; simp, by rw [h2]; simp⟩
    · exact .inl ⟨a', h1.symm, ha, h2⟩
  · exact .inr ⟨c', h1, h2.symm⟩
theorem uintR_short {u : Nat} (hu : u < 18446744073709551616) {p q : List UInt8} (h : p ++ q = uintB u) (hq : q ≠ []) : uintR p 0 = (0, [], 10) := by
  unfold uintR
  rw [if_pos rfl, decU_short _ 0 0 p q (by omega) (by omega) (by omega) h hq]
theorem textR_short {t : List UInt8} (ht : t.length ≤ 4096) {p q : List UInt8} (h : p ++ q = uintB t.length ++ t) (hq : q ≠ []) : textR p 0 4096 = ([], [], 10) := by
  rcases pre_split h with ⟨q', h1, h2, _⟩ | ⟨p', rfl, h2⟩
  · have hc : cntR p 0 4096 = (0, [], 10) := by
      unfold cntR
      rw [uintR_short (by omega) h1 h2, if_neg (by simp)]
    unfold textR
    rw [hc, if_pos (by simp)]
  · have hc : cntR (uintB t.length ++ p') 0 4096 = (t.length, p', 0) := by
      unfold cntR
      rw [uintR_enc (by omega), if_neg (by simp; omega)]
    unfold textR
    have hl : p'.length < t.length := by
      rw [← h2, List.length_append]
      have := List.length_pos_iff.2 hq
      omega
    rw [hc, if_neg (by simp), if_pos hl]
theorem failE_ne {e x : Int} (hx : x ≠ 0) : failE e x ≠ 0 := by
  unfold failE
  split
  · exact hx
  · next c => intro c2; exact c ⟨c2, hx⟩
theorem textR_can {l t r : List UInt8} (h : textR l 0 4096 = (t, r, 0)) : l = uintB t.length ++ t ++ r ∧ t.length ≤ 4096 := by
  unfold textR at h
  split at h
  · next c =>
    simp only [Prod.mk.injEq] at h
    exact absurd h.2.2 c
  next c =>
  have c' : (cntR l 0 4096).2.2 = 0 := by simpa using c
  split at h
  · simp at h
  next g =>
  simp only [Prod.mk.injEq, and_true] at h
  obtain ⟨h1, h2⟩ := h
  have hc := c'
  unfold cntR at hc
  split at hc
  · exact absurd hc (failE_ne (by decide))
  next q =>
  have hun : cntR l 0 4096 = uintR l 0 := by unfold cntR; rw [if_neg q]
  rw [hun] at h1 h2 g
  have hcan := uintR_can (l := l) (r := (uintR l 0).2.1) (u := (uintR l 0).1) (Prod.ext rfl (Prod.ext rfl hc))
  have hl : t.length = (uintR l 0).1 := by rw [← h1, List.length_take]; omega
  refine ⟨?_, by omega⟩
  rw [hl, List.append_assoc, ← h1, ← h2, List.take_append_drop]
  exact hcan
/-! ### specs -/
theorem badT_text {s : Spp} (hs : mayS s = true) : badT (textS s) = false := by
  unfold badT
  rw [parse_text hs]
  simp
theorem badT_good {t : List UInt8} (h : badT t = false) : mayS (parseOf (ofL t)).1 = true ∧ textS (parseOf (ofL t)).1 = t := by
  unfold badT at h
  simp only [Bool.or_eq_false_iff, decide_eq_false_iff_not, ne_eq, Decidable.not_not] at h
  exact ⟨(parseOf_may h.1).1, ofL_inj h.2⟩
theorem spsR_enc : ∀ (ss : List Spp) (r : List UInt8), (∀ s, s ∈ ss → mayS s = true) → spsR ss.length (ss.flatMap spB ++ r) 0 = (ss, r, 0)
  | [], r, _ => rfl
  | s :: ss, r, h => by
    have hs := h s (by simp)
    have hl := textS_len hs
    have ht : textR ((s :: ss).flatMap spB ++ r) 0 4096 = (textS s, ss.flatMap spB ++ r, 0) := by
      rw [List.flatMap_cons, List.append_assoc]
      exact textR_enc (by omega) _
    have ha : aftT ((s :: ss).flatMap spB ++ r) 0 = (ss.flatMap spB ++ r, 0) := by
      unfold aftT
      rw [ht, badT_text hs, if_neg (by simp)]
    rw [List.length_cons, spsR, if_neg (by simp), ha, ht, spsR_enc ss r fun x hx => h x (by simp [hx]), parse_text hs]
theorem spsR_can : ∀ (k : Nat) (l r : List UInt8) (e : Int) (ss : List Spp), spsR k l e = (ss, r, 0) → e = 0 ∧ ss.length = k ∧ (∀ s, s ∈ ss → mayS s = true) ∧ l = ss.flatMap spB ++ r
  | 0, l, r, e, ss, h => by
    simp only [spsR, Prod.mk.injEq] at h
    obtain ⟨rfl, rfl, rfl⟩ := h
    exact ⟨rfl, rfl, fun s hs => (by cases hs), rfl⟩
  | k + 1, l, r, e, ss, h => by
    rw [spsR] at h
    split at h
    · next c =>
      simp only [Prod.mk.injEq] at h
      exact absurd h.2.2 c
    next c =>
    have he : e = 0 := by simpa using c
    subst he
    simp only [Prod.mk.injEq] at h
    obtain ⟨h1, h2⟩ := h
    obtain ⟨i1, i2, i3, i4⟩ := spsR_can k _ r _ (spsR k (aftT l 0).1 (aftT l 0).2).1 (Prod.ext rfl h2)
    have hb : badT (textR l 0 4096).1 = false := by
      cases hb : badT (textR l 0 4096).1 with
      | false => rfl
      | true =>
        unfold aftT at i1
        rw [hb, if_pos rfl] at i1
        exact absurd i1 (failE_ne (by decide))
    obtain ⟨g1, g2⟩ := badT_good hb
    have ha : aftT l 0 = (textR l 0 4096).2 := by unfold aftT; rw [hb, if_neg (by simp)]
    rw [ha] at i1 i4
    obtain ⟨t1, t2⟩ := textR_can (l := l) (t := (textR l 0 4096).1) (r := (textR l 0 4096).2.1) (Prod.ext rfl (Prod.ext rfl i1))
    subst h1
    refine ⟨rfl, by rw [List.length_cons, i2], fun s hs => ?_, ?_⟩
    · rcases List.mem_cons.1 hs with hs | hs
      · rw [hs]; exact g1
      · exact i3 s hs
    · rw [ha, List.flatMap_cons, List.append_assoc, ← i4]
      unfold spB
      rw [g2]
      exact t1
theorem spsR_short : ∀ (ss : List Spp) (p q : List UInt8), (∀ s, s ∈ ss → mayS s = true) → p ++ q = ss.flatMap spB → q ≠ [] → (spsR ss.length p 0).2 = ([], 10)
  | [], p, q, _, h, hq => by
    simp only [List.flatMap_nil, List.append_eq_nil_iff] at h
    exact absurd h.2 hq
  | s :: ss, p, q, hm, h, hq => by
    have hs := hm s (by simp)
    have hl := textS_len hs
    rw [List.flatMap_cons] at h
    rcases pre_split h with ⟨q', h1, h2, _⟩ | ⟨p', rfl, h2⟩
    · have ht : textR p 0 4096 = ([], [], 10) := textR_short (t := textS s) (by omega) h1 h2
      have ha : aftT p 0 = ([], 10) := by
        unfold aftT
        rw [ht]
        split <;> rfl
      rw [List.length_cons, spsR, if_neg (by simp), ha, spsR_err (by decide)]
    · have ht : textR (spB s ++ p') 0 4096 = (textS s, p', 0) := textR_enc (by omega) p'
      have ha : aftT (spB s ++ p') 0 = (p', 0) := by
        unfold aftT
        rw [ht, badT_text hs, if_neg (by simp)]
      rw [List.length_cons, spsR, if_neg (by simp), ha]
      exact spsR_short ss p' q (fun x hx => hm x (by simp [hx])) h2 hq
/-! ### fields -/
theorem get_set_same {n : Evn} {v : Int} {i : Nat} (h1 : 1 ≤ i) (h8 : i ≤ 8) : (n.set v i).get i = v := by
  have : i = 1 ∨ i = 2 ∨ i = 3 ∨ i = 4 ∨ i = 5 ∨ i = 6 ∨ i = 7 ∨ i = 8 := by omega
  rcases this with rfl | rfl | rfl | rfl | rfl | rfl | rfl | rfl <;> rfl
theorem get_set_other {n : Evn} {v : Int} {i j : Nat} (h : j ≠ i) : (n.set v i).get j = n.get j := by
  unfold Evn.set
  split <;> (unfold Evn.get; split) <;> first | rfl | (exact absurd rfl h)
theorem fldsR_enc (n : Evn) (hr : Rng n) : ∀ (fs : List Fld) (m : Evn) (r : List UInt8), fldsR m fs (fldsB n fs ++ r) 0 = (fs.foldl (fun a f => a.set (n.get f.1) f.1) m, r, 0)
  | [], m, r => rfl
  | f :: fs, m, r => by
    have hb : fldsB n (f :: fs) ++ r = uintB (zz (n.get f.1)) ++ (fldsB n fs ++ r) := by
      unfold fldsB
      rw [List.flatMap_cons, List.append_assoc]
    rw [hb, fldsR, intR_enc (hr f.1).1 (hr f.1).2]
    exact fldsR_enc n hr fs _ r
theorem fldsR_err : ∀ (fs : List Fld) (m : Evn) (l : List UInt8) (e : Int), e ≠ 0 → (fldsR m fs l e).2 = (l, e)
  | [], _, _, _, _ => rfl
  | f :: fs, m, l, e, h => by
    rw [fldsR, intR_err h]
    exact fldsR_err fs _ l e h
theorem fldsR_get : ∀ (fs : List Fld) (m : Evn) (l : List UInt8) (e : Int) (j : Nat), j ∉ fs.map (·.1) → (fldsR m fs l e).1.get j = m.get j
  | [], _, _, _, _, _ => rfl
  | f :: fs, m, l, e, j, h => by
    rw [List.map_cons, List.mem_cons, not_or] at h
    rw [fldsR, fldsR_get fs _ _ _ j h.2, get_set_other h.1]
theorem fldsR_can : ∀ (fs : List Fld) (m m' : Evn) (l r : List UInt8) (e : Int), (∀ f, f ∈ fs → 1 ≤ f.1 ∧ f.1 ≤ 8) → (fs.map (·.1)).Nodup → fldsR m fs l e = (m', r, 0) → e = 0 ∧ l = fldsB m' fs ++ r
  | [], m, m', l, r, e, _, _, h => by
    simp only [fldsR, Prod.mk.injEq] at h
    obtain ⟨rfl, rfl, rfl⟩ := h
    exact ⟨rfl, rfl⟩
  | f :: fs, m, m', l, r, e, ho, hn, h => by
    have hf := ho f (by simp)
    rw [List.map_cons, List.nodup_cons] at hn
    rw [fldsR] at h
    obtain ⟨i1, i2⟩ := fldsR_can fs _ m' _ r _ (fun g hg => ho g (by simp [hg])) hn.2 h
    have hg := fldsR_get fs (m.set (intR l e).1 f.1) (intR l e).2.1 (intR l e).2.2 f.1 hn.1
    rw [h, get_set_same hf.1 hf.2] at hg
    have he : e = 0 := by
      by_cases c : e = 0
      · exact c
      · rw [intR_err c] at i1
        exact i1
    subst he
    have hc := intR_can (l := l) (v := (intR l 0).1) (r := (intR l 0).2.1) (Prod.ext rfl (Prod.ext rfl i1))
    refine ⟨rfl, ?_⟩
    unfold fldsB
    rw [List.flatMap_cons, List.append_assoc]
    have hg' : m'.get f.1 = (intR l 0).1 := hg
    rw [hg']
    have i2' : (intR l 0).2.1 = fs.flatMap (fun f => uintB (zz (m'.get f.1))) ++ r := i2
    rw [← i2']
    exact hc
theorem fldsR_short (n : Evn) (hr : Rng n) : ∀ (fs : List Fld) (m : Evn) (p q : List UInt8), p ++ q = fldsB n fs → q ≠ [] → (fldsR m fs p 0).2 = ([], 10)
  | [], m, p, q, h, hq => by
    unfold fldsB at h
    simp only [List.flatMap_nil, List.append_eq_nil_iff] at h
    exact absurd h.2 hq
  | f :: fs, m, p, q, h, hq => by
    have hb : fldsB n (f :: fs) = uintB (zz (n.get f.1)) ++ fldsB n fs := by
      unfold fldsB
      rw [List.flatMap_cons]
    rw [hb] at h
    rcases pre_split h with ⟨q', h1, h2, _⟩ | ⟨p', rfl, h2⟩
    · rw [fldsR, intR_short (hr f.1).1 (hr f.1).2 h1 h2]
      exact fldsR_err fs _ [] 10 (by decide)
    · rw [fldsR, intR_enc (hr f.1).1 (hr f.1).2]
      exact fldsR_short n hr fs _ p' q h2 hq
theorem flds_nodup {k : Int} {fs : List Fld} (h : fldsOf k = some fs) : (fs.map (·.1)).Nodup := by
  unfold fldsOf at h
  repeat (split at h; (cases h; decide))
  cases h
theorem chkF_get : ∀ (fs : List Fld) (e e' : Evn), chkF e fs = some e' → ∀ j, j ∉ fs.map (·.1) → e'.get j = e.get j
  | [], e, e', h, j, _ => by simp [chkF] at h; rw [h]
  | f :: fs, e, e', h, j, hj => by
    rw [List.map_cons, List.mem_cons, not_or] at hj
    rw [chkF] at h
    split at h
    · rw [chkF_get fs _ _ h j hj.2, get_set_other hj.1]
    · cases h
theorem fold_get : ∀ (fs : List Fld) (n m : Evn), (∀ f, f ∈ fs → 1 ≤ f.1 ∧ f.1 ≤ 8) → ∀ j, (fs.foldl (fun a f => a.set (n.get f.1) f.1) m).get j = if j ∈ fs.map (·.1) then n.get j else m.get j
  | [], n, m, _, j => by simp
  | f :: fs, n, m, ho, j => by
    have hf := ho f (by simp)
    rw [List.foldl_cons, fold_get fs n _ (fun g hg => ho g (by simp [hg])) j, List.map_cons]
    by_cases c : j ∈ fs.map (·.1)
    · rw [if_pos c, if_pos (List.mem_cons_of_mem _ c)]
    · rw [if_neg c]
      by_cases d : j = f.1
      · subst d
        rw [if_pos (by simp), get_set_same hf.1 hf.2]
      · rw [if_neg (by simp only [List.mem_cons, not_or]; exact ⟨d, c⟩), get_set_other d]
theorem evn_ext {a b : Evn} (h : ∀ j, j ≤ 8 → a.get j = b.get j) : a = b := by
  obtain ⟨a0, a1, a2, a3, a4, a5, a6, a7, a8⟩ := a
  obtain ⟨b0, b1, b2, b3, b4, b5, b6, b7, b8⟩ := b
  have h0 := h 0 (by omega); have h1 := h 1 (by omega); have h2 := h 2 (by omega); have h3 := h 3 (by omega); have h4 := h 4 (by omega); have h5 := h 5 (by omega); have h6 := h 6 (by omega); have h7 := h 7 (by omega); have h8 := h 8 (by omega)
  simp only [Evn.get] at h0 h1 h2 h3 h4 h5 h6 h7 h8
  subst h0 h1 h2 h3 h4 h5 h6 h7 h8
  rfl
theorem restZ_get {e : Evn} (h : restZ e = true) : ∀ j, 1 ≤ j → j ≤ 8 → e.get j = 0 := by
  unfold restZ at h
  simp only [Bool.and_eq_true, decide_eq_true_eq] at h
  obtain ⟨⟨⟨⟨⟨⟨⟨h1, h2⟩, h3⟩, h4⟩, h5⟩, h6⟩, h7⟩, h8⟩ := h
  intro j a b
  have : j = 1 ∨ j = 2 ∨ j = 3 ∨ j = 4 ∨ j = 5 ∨ j = 6 ∨ j = 7 ∨ j = 8 := by omega
  rcases this with rfl | rfl | rfl | rfl | rfl | rfl | rfl | rfl
  · exact h1
  · exact h2
  · exact h3
  · exact h4
  · exact h5
  · exact h6
  · exact h7
  · exact h8
/-- what may be is told by its kind and its fields -/
theorem may_fold {e : Evp} (h : mayE e = true) {fs : List Fld} (hf : fldsOf e.n.kind = some fs) : fs.foldl (fun a f => a.set (e.n.get f.1) f.1) (Evn.ofKind e.n.kind) = e.n := by
  unfold mayE at h
  rw [hf] at h
  cases hc : chkF e.n fs with
  | none => simp only [hc] at h; cases h
  | some e' =>
    simp only [hc, Bool.and_eq_true] at h
    have hz := restZ_get h.2
    refine evn_ext fun j hj => ?_
    rw [fold_get fs _ _ (fun f hf' => by have := (flds_ok hf).2 f hf'; omega)]
    split
    · rfl
    · next c =>
      by_cases j0 : j = 0
      · subst j0; rfl
      · have h1 := hz j (by omega) hj
        rw [chkF_get fs _ _ hc j c] at h1
        rw [h1]
        have : j = 1 ∨ j = 2 ∨ j = 3 ∨ j = 4 ∨ j = 5 ∨ j = 6 ∨ j = 7 ∨ j = 8 := by omega
        rcases this with rfl | rfl | rfl | rfl | rfl | rfl | rfl | rfl <;> rfl
end Go.Proofs.YteoihdkaoipocaaDoor

/- What was put is taken; what is taken has just those bytes; cut short it is none: plain. Plain theorems: no condition. -/
namespace Go.Proofs.YteoihdkaoipocaaDoor
open Go.RowKit

theorem evB_some {e : Evp} {fs : List Fld} (hf : fldsOf e.n.kind = some fs) : evB e = uintB (zz e.n.kind) ++ fldsB e.n fs ++ (if e.n.kind = 2 then uintB (zz e.specs.length) else []) ++ e.specs.flatMap spB := by unfold evB; rw [hf]
theorem specsR_enc {ss : List Spp} (h1 : 0 < ss.length) (h8 : ss.length ≤ 8) (hm : ∀ s, s ∈ ss → mayS s = true) (r : List UInt8) : specsR (uintB (zz ss.length) ++ ss.flatMap spB ++ r) 0 = (ss, r, 0) := by
  unfold specsR
  rw [List.append_assoc, intR_enc (by omega) (by omega), if_neg (by simp; omega)]
  show spsR (ss.length : Int).toNat _ 0 = _
  rw [Int.toNat_natCast]
  exact spsR_enc ss r hm
theorem specsR_err {l : List UInt8} {e : Int} (h : e ≠ 0) : (specsR l e).2.2 ≠ 0 := by
  unfold specsR
  rw [intR_err h]
  rw [if_pos (by simp)]
  show failE e 130 ≠ 0
  exact failE_ne (by decide)
/-- what was put is taken -/
theorem take_enc {e : Evp} (hm : mayE e = true) (hr : Rng e.n) (r : List UInt8) : takeR (evB e ++ r) 0 = (e, r, 0) := by
  obtain ⟨fs, hf, hk2, h8, hall⟩ := mayE_parts hm
  have hfold := may_fold hm hf
  obtain ⟨R, hR⟩ : ∃ R, R = (if e.n.kind = 2 then uintB (zz e.specs.length) else []) ++ e.specs.flatMap spB ++ r := ⟨_, rfl⟩
  have hb : evB e ++ r = uintB (zz e.n.kind) ++ (fldsB e.n fs ++ R) := by
    rw [evB_some hf, hR]
    simp only [List.append_assoc]
  have hi : intR (evB e ++ r) 0 = (e.n.kind, fldsB e.n fs ++ R, 0) := by
    rw [hb]
    exact intR_enc (hr 0).1 (hr 0).2 _
  have ha : afterK (evB e ++ r) 0 = (fldsB e.n fs ++ R, 0) := by
    unfold afterK
    rw [hi]
    simp only [hf]
  have hn : numsR (evB e ++ r) 0 = (e.n, R, 0) := by
    unfold numsR
    rw [ha, hi]
    simp only [hf]
    show fldsR (Evn.ofKind e.n.kind) fs (fldsB e.n fs ++ R) 0 = _
    rw [fldsR_enc e.n hr, hfold]
  have hs : spcsR (evB e ++ r) 0 = (e.specs, r, 0) := by
    unfold spcsR
    rw [hi, hn]
    by_cases c : e.n.kind = 2
    · rw [if_pos c]
      show specsR R 0 = _
      rw [hR, if_pos c]
      exact specsR_enc (hk2.1 c) h8 hall r
    · rw [if_neg c]
      have h0 : e.specs = [] := by
        cases h : e.specs with
        | nil => rfl
        | cons x xs => exact absurd (hk2.2 (by rw [h]; simp)) c
      rw [hR, if_neg c, h0]
      rfl
  have hw : rawR (evB e ++ r) 0 = e := by
    unfold rawR
    rw [hn, hs]
  have hl : lastR (evB e ++ r) 0 = (r, 0) := by
    unfold lastR
    rw [hw, if_pos hm, hs]
  unfold takeR
  rw [hl, hw]
  rfl
/-- what is taken may be, and has just those bytes -/
theorem take_can {l : List UInt8} (h : (takeR l 0).2.2 = 0) : mayE (takeR l 0).1 = true ∧ l = evB (takeR l 0).1 ++ (takeR l 0).2.1 := by
  have h1 : (lastR l 0).2 = 0 := h
  have ht : takeR l 0 = (rawR l 0, lastR l 0) := by unfold takeR; rw [if_pos h1]
  have hm : mayE (rawR l 0) = true := by
    cases c : mayE (rawR l 0) with
    | true => rfl
    | false =>
      unfold lastR at h1
      rw [c, if_neg (by simp)] at h1
      exact absurd h1 (failE_ne (by decide))
  have hl : lastR l 0 = (spcsR l 0).2 := by unfold lastR; rw [if_pos hm]
  rw [ht]
  refine ⟨hm, ?_⟩
  show l = evB (rawR l 0) ++ (lastR l 0).1
  rw [hl] at h1 ⊢
  obtain ⟨fs, hf, hk2, h8, hall⟩ := mayE_parts hm
  obtain ⟨k, hk⟩ : ∃ k, k = (intR l 0).1 := ⟨_, rfl⟩
  have hkr : (rawR l 0).n.kind = k := by
    show (numsR l 0).1.kind = k
    unfold numsR
    rw [fldsR_kind, hk]
    rfl
  rw [hkr] at hf hk2
  have hak : afterK l 0 = (intR l 0).2 := by
    unfold afterK
    rw [← hk]
    simp only [hf]
  have hn : numsR l 0 = fldsR (Evn.ofKind k) fs (intR l 0).2.1 (intR l 0).2.2 := by
    unfold numsR
    rw [hak, ← hk]
    simp only [hf]
    rfl
  have hn0 : (numsR l 0).2.2 = 0 := by
    by_cases c : k = 2
    · have hs : spcsR l 0 = specsR (numsR l 0).2.1 (numsR l 0).2.2 := by unfold spcsR; rw [← hk, if_pos c]
      rw [hs] at h1
      by_cases g : (numsR l 0).2.2 = 0
      · exact g
      · exact absurd h1 (specsR_err g)
    · have hs : spcsR l 0 = ([], (numsR l 0).2) := by unfold spcsR; rw [← hk, if_neg c]
      rw [hs] at h1
      exact h1
  obtain ⟨i1, i2⟩ := fldsR_can fs (Evn.ofKind k) (numsR l 0).1 (intR l 0).2.1 (numsR l 0).2.1 (intR l 0).2.2 (fun f hf' => by have := (flds_ok hf).2 f hf'; omega) (flds_nodup hf) (by rw [← hn]; exact Prod.ext rfl (Prod.ext rfl hn0))
  have hc := intR_can (l := l) (v := k) (r := (intR l 0).2.1) (Prod.ext hk.symm (Prod.ext rfl i1))
  have hev := evB_some (e := rawR l 0) (by rw [hkr]; exact hf)
  rw [hkr] at hev
  have hnn : (rawR l 0).n = (numsR l 0).1 := rfl
  have hss : (rawR l 0).specs = (spcsR l 0).1 := rfl
  rw [hnn] at hev
  have key : (numsR l 0).2.1 = (if k = 2 then uintB (zz (rawR l 0).specs.length) else []) ++ (rawR l 0).specs.flatMap spB ++ (spcsR l 0).2.1 := by
    rw [hss]
    by_cases c : k = 2
    · have hs : spcsR l 0 = specsR (numsR l 0).2.1 0 := by unfold spcsR; rw [← hk, if_pos c, hn0]
      rw [if_pos c]
      have h1' : (specsR (numsR l 0).2.1 0).2.2 = 0 := by rw [← hs]; exact h1
      rw [hs]
      generalize (numsR l 0).2.1 = M at h1' ⊢
      unfold specsR at h1' ⊢
      by_cases g : (intR M 0).1 < 1 ∨ 8 < (intR M 0).1
      · rw [if_pos g] at h1'
        exact absurd h1' (failE_ne (by decide))
      · rw [if_neg g] at h1' ⊢
        obtain ⟨j1, j2, _, j4⟩ := spsR_can _ _ (spsR (intR M 0).1.toNat (intR M 0).2.1 (intR M 0).2.2).2.1 _ (spsR (intR M 0).1.toNat (intR M 0).2.1 (intR M 0).2.2).1 (Prod.ext rfl (Prod.ext rfl h1'))
        have hc2 := intR_can (l := M) (v := (intR M 0).1) (r := (intR M 0).2.1) (Prod.ext rfl (Prod.ext rfl j1))
        rw [j2]
        have e1 : (((intR M 0).1.toNat : Nat) : Int) = (intR M 0).1 := by omega
        rw [e1, List.append_assoc, ← j4]
        exact hc2
    · have hs : spcsR l 0 = ([], (numsR l 0).2) := by unfold spcsR; rw [← hk, if_neg c]
      rw [if_neg c, hs]
      rfl
  rw [hev]
  conv => lhs; rw [hc, i2, key]
  simp only [List.append_assoc]
theorem take_err {p : List UInt8} (h : (spcsR p 0).2 = ([], 10)) : takeR p 0 = (Evp.zero, [], 10) := by
  have hl : lastR p 0 = ([], 10) := by
    unfold lastR
    rw [h]
    split
    · rfl
    · rfl
  unfold takeR
  rw [hl]
  rfl
/-- cut short it is none -/
theorem take_short {e : Evp} (hm : mayE e = true) (hr : Rng e.n) {p q : List UInt8} (h : p ++ q = evB e) (hq : q ≠ []) : takeR p 0 = (Evp.zero, [], 10) := by
  obtain ⟨fs, hf, hk2, h8, hall⟩ := mayE_parts hm
  have hfold := may_fold hm hf
  obtain ⟨R, hR⟩ : ∃ R, R = (if e.n.kind = 2 then uintB (zz e.specs.length) else []) ++ e.specs.flatMap spB := ⟨_, rfl⟩
  have hb : evB e = uintB (zz e.n.kind) ++ (fldsB e.n fs ++ R) := by
    rw [evB_some hf, hR]
    simp only [List.append_assoc]
  rw [hb] at h
  rcases pre_split h with ⟨q', h1, h2, _⟩ | ⟨p1, rfl, h2⟩
  · have hi : intR p 0 = (0, [], 10) := intR_short (hr 0).1 (hr 0).2 h1 h2
    have ha : afterK p 0 = ([], 10) := by unfold afterK; rw [hi]; rfl
    have hn : numsR p 0 = (Evn.ofKind 0, [], 10) := by unfold numsR; rw [ha, hi]; rfl
    refine take_err ?_
    unfold spcsR
    rw [hi, hn]
    rfl
  have hi : intR (uintB (zz e.n.kind) ++ p1) 0 = (e.n.kind, p1, 0) := intR_enc (hr 0).1 (hr 0).2 _
  have ha : afterK (uintB (zz e.n.kind) ++ p1) 0 = (p1, 0) := by
    unfold afterK
    rw [hi]
    simp only [hf]
  have hn : numsR (uintB (zz e.n.kind) ++ p1) 0 = fldsR (Evn.ofKind e.n.kind) fs p1 0 := by
    unfold numsR
    rw [ha, hi]
    simp only [hf]
    rfl
  rcases pre_split h2 with ⟨q', h3, h4, _⟩ | ⟨p2, rfl, h4⟩
  · have hn2 : (numsR (uintB (zz e.n.kind) ++ p1) 0).2 = ([], 10) := by rw [hn]; exact fldsR_short e.n hr fs _ p1 q' h3 h4
    refine take_err ?_
    unfold spcsR
    rw [hi]
    split
    · rw [hn2]
      unfold specsR
      rw [intR_err (by decide), if_pos (by simp)]
      rfl
    · exact hn2
  have hn2 : numsR (uintB (zz e.n.kind) ++ (fldsB e.n fs ++ p2)) 0 = (e.n, p2, 0) := by rw [hn, fldsR_enc e.n hr, hfold]
  refine take_err ?_
  unfold spcsR
  rw [hi, hn2]
  by_cases c : e.n.kind = 2
  · rw [if_pos c]
    rw [hR, if_pos c] at h4
    show (specsR p2 0).2 = _
    unfold specsR
    rcases pre_split h4 with ⟨q', h5, h6, _⟩ | ⟨p3, rfl, h6⟩
    · rw [intR_short (by omega) (by omega) h5 h6, if_pos (by simp)]
      rfl
    · rw [intR_enc (by omega) (by omega), if_neg (by have := hk2.1 c; simp; omega)]
      show (spsR (e.specs.length : Int).toNat p3 0).2 = _
      rw [Int.toNat_natCast]
      exact spsR_short e.specs p3 q hall h6 hq
  · have h0 : e.specs = [] := by
      cases h : e.specs with
      | nil => rfl
      | cons x xs => exact absurd (hk2.2 (by rw [h]; simp)) c
    rw [hR, if_neg c, h0] at h4
    simp only [List.flatMap_nil, List.append_nil, List.append_eq_nil_iff] at h4
    exact absurd h4.2 hq
end Go.Proofs.YteoihdkaoipocaaDoor

/- corveeref13.Same of equal events; corveelaw13.long. Plain theorems: no condition. -/
namespace Go.Proofs.YteoihdkaoipocaaDoor
open Go.RowKit Go.Maps

set_option maxRecDepth 100000 in
set_option maxHeartbeats 6400000 in
theorem esame_yes (X Y : Evv) (w : World) (hX : X.ok w) (hY : Y.ok w) (he : X.pl = Y.pl) : Calls Tryd.prog 52 #[X.val, Y.val] w fun e w' => e = .returned (.bool true) ∧ Below w.heap.size w w' := by
  obtain ⟨⟨kk, epoch, tick, client, seq, job, attempt, node, how⟩, xo, xm, xc, xsp⟩ := X
  obtain ⟨⟨k2, ep2, ti2, cl2, se2, jo2, at2, no2, ho2⟩, yo, ym, yc, ysp⟩ := Y
  have hn : (⟨kk, epoch, tick, client, seq, job, attempt, node, how⟩ : Evn) = ⟨k2, ep2, ti2, cl2, se2, jo2, at2, no2, ho2⟩ := congrArg Evp.n he
  have hs : xsp.map Spv.pl = ysp.map Spv.pl := congrArg Evp.specs he
  simp only [Evn.mk.injEq] at hn
  obtain ⟨rfl, rfl, rfl, rfl, rfl, rfl, rfl, rfl, rfl⟩ := hn
  obtain ⟨W1, hW1⟩ : ∃ W1, W1 = w.alloc (.cells (⟨⟨kk, epoch, tick, client, seq, job, attempt, node, how⟩, xo, xm, xc, xsp⟩ : Evv).cells 70 (0, 0)) := ⟨_, rfl⟩
  have hb1 : Below w.heap.size w W1 := by rw [hW1]; exact (Below.refl _ _).alloc (Nat.le_refl _) _
  have hx1 : W1.heap[w.heap.size]? = some (.cells (⟨⟨kk, epoch, tick, client, seq, job, attempt, node, how⟩, xo, xm, xc, xsp⟩ : Evv).cells 70 (0, 0)) := by rw [hW1]; exact blk_new _ _
  obtain ⟨W2, hW2⟩ : ∃ W2, W2 = W1.alloc (.cells (⟨⟨kk, epoch, tick, client, seq, job, attempt, node, how⟩, yo, ym, yc, ysp⟩ : Evv).cells 70 (0, 0)) := ⟨_, rfl⟩
  have hb2 : Below W1.heap.size W1 W2 := by rw [hW2]; exact (Below.refl _ _).alloc (Nat.le_refl _) _
  have hy2 : W2.heap[W1.heap.size]? = some (.cells (⟨⟨kk, epoch, tick, client, seq, job, attempt, node, how⟩, yo, ym, yc, ysp⟩ : Evv).cells 70 (0, 0)) := by rw [hW2]; exact blk_new _ _
  have hx2 := blk_below hb2 hx1 (blk_lt hx1)
  have hlow : Below w.heap.size w W2 := hb1.trans (hb2.mono hb1.size)
  have hrows := rows_any xo yo xm ym xc yc xsp ysp W2 (hX.sps.low hlow) (hY.sps.low hlow)
  unfold RowsPost at hrows
  rw [hs, decide_eq_true rfl] at hrows
  obtain ⟨yb, hyb⟩ : ∃ yb, yb = w.heap.size + 1 := ⟨_, rfl⟩
  have hsz : W1.heap.size = yb := by rw [hyb, hW1]; simp
  rw [hsz] at hy2
  have x0 : W2.cell? ⟨w.heap.size, 0, none⟩ = some (.int .i64 kk) := blk_cell hx2 0
  have x1 : W2.cell? ⟨w.heap.size, 1, none⟩ = some (.int .i64 epoch) := blk_cell hx2 1
  have x2 : W2.cell? ⟨w.heap.size, 2, none⟩ = some (.int .i64 tick) := blk_cell hx2 2
  have x3 : W2.cell? ⟨w.heap.size, 3, none⟩ = some (.int .i64 client) := blk_cell hx2 3
  have x4 : W2.cell? ⟨w.heap.size, 4, none⟩ = some (.int .i64 seq) := blk_cell hx2 4
  have x5 : W2.cell? ⟨w.heap.size, 5, none⟩ = some (.int .i64 job) := blk_cell hx2 5
  have x6 : W2.cell? ⟨w.heap.size, 6, none⟩ = some (.int .i64 attempt) := blk_cell hx2 6
  have x7 : W2.cell? ⟨w.heap.size, 7, none⟩ = some (.int .i64 node) := blk_cell hx2 7
  have x8 : W2.cell? ⟨w.heap.size, 8, none⟩ = some (.int .i64 how) := blk_cell hx2 8
  have x9 : W2.cell? ⟨w.heap.size, 9, none⟩ = some (.slice xo xm xc) := blk_cell hx2 9
  have y0 : W2.cell? ⟨yb, 0, none⟩ = some (.int .i64 kk) := blk_cell hy2 0
  have y1 : W2.cell? ⟨yb, 1, none⟩ = some (.int .i64 epoch) := blk_cell hy2 1
  have y2 : W2.cell? ⟨yb, 2, none⟩ = some (.int .i64 tick) := blk_cell hy2 2
  have y3 : W2.cell? ⟨yb, 3, none⟩ = some (.int .i64 client) := blk_cell hy2 3
  have y4 : W2.cell? ⟨yb, 4, none⟩ = some (.int .i64 seq) := blk_cell hy2 4
  have y5 : W2.cell? ⟨yb, 5, none⟩ = some (.int .i64 job) := blk_cell hy2 5
  have y6 : W2.cell? ⟨yb, 6, none⟩ = some (.int .i64 attempt) := blk_cell hy2 6
  have y7 : W2.cell? ⟨yb, 7, none⟩ = some (.int .i64 node) := blk_cell hy2 7
  have y8 : W2.cell? ⟨yb, 8, none⟩ = some (.int .i64 how) := blk_cell hy2 8
  have y9 : W2.cell? ⟨yb, 9, none⟩ = some (.slice yo ym yc) := blk_cell hy2 9
  have hW1' := Lib.hid hW1
  have hW2' := Lib.hid hW2
  have hyb' := Lib.hid hyb
  clear hW1 hW2 hyb
  replace hX := Lib.hid hX; replace hY := Lib.hid hY; replace he := Lib.hid he; replace hs := Lib.hid hs; replace hb1 := Lib.hid hb1; replace hx1 := Lib.hid hx1; replace hb2 := Lib.hid hb2; replace hy2 := Lib.hid hy2; replace hx2 := Lib.hid hx2; replace hlow := Lib.hid hlow; replace hrows := Lib.hid hrows
  go_enter Tryd.func52, Tryd.ntmps52
  go_upto_region 1 with fail
  rw [← hW1'.out, ← hW2'.out, ← hyb'.out]
  go_wp2_with fail
  refine hrows.out.mono ?_
  rintro e w3 ⟨rfl, hb3⟩
  have hx3 := blk_below hb3 hx2.out (blk_lt hx2.out)
  have hy3 := blk_below hb3 hy2.out (blk_lt hy2.out)
  have hlow3 := hlow.out.trans (hb3.mono hlow.out.size)
  clear x0 x1 x2 x3 x4 x5 x6 x7 x8 x9 y0 y1 y2 y3 y4 y5 y6 y7 y8 y9
  have x0 : w3.cell? ⟨w.heap.size, 0, none⟩ = some (.int .i64 kk) := blk_cell hx3 0
  have x1 : w3.cell? ⟨w.heap.size, 1, none⟩ = some (.int .i64 epoch) := blk_cell hx3 1
  have x2 : w3.cell? ⟨w.heap.size, 2, none⟩ = some (.int .i64 tick) := blk_cell hx3 2
  have x3 : w3.cell? ⟨w.heap.size, 3, none⟩ = some (.int .i64 client) := blk_cell hx3 3
  have x4 : w3.cell? ⟨w.heap.size, 4, none⟩ = some (.int .i64 seq) := blk_cell hx3 4
  have x5 : w3.cell? ⟨w.heap.size, 5, none⟩ = some (.int .i64 job) := blk_cell hx3 5
  have x6 : w3.cell? ⟨w.heap.size, 6, none⟩ = some (.int .i64 attempt) := blk_cell hx3 6
  have x7 : w3.cell? ⟨w.heap.size, 7, none⟩ = some (.int .i64 node) := blk_cell hx3 7
  have x8 : w3.cell? ⟨w.heap.size, 8, none⟩ = some (.int .i64 how) := blk_cell hx3 8
  have x9 : w3.cell? ⟨w.heap.size, 9, none⟩ = some (.slice xo xm xc) := blk_cell hx3 9
  have y0 : w3.cell? ⟨yb, 0, none⟩ = some (.int .i64 kk) := blk_cell hy3 0
  have y1 : w3.cell? ⟨yb, 1, none⟩ = some (.int .i64 epoch) := blk_cell hy3 1
  have y2 : w3.cell? ⟨yb, 2, none⟩ = some (.int .i64 tick) := blk_cell hy3 2
  have y3 : w3.cell? ⟨yb, 3, none⟩ = some (.int .i64 client) := blk_cell hy3 3
  have y4 : w3.cell? ⟨yb, 4, none⟩ = some (.int .i64 seq) := blk_cell hy3 4
  have y5 : w3.cell? ⟨yb, 5, none⟩ = some (.int .i64 job) := blk_cell hy3 5
  have y6 : w3.cell? ⟨yb, 6, none⟩ = some (.int .i64 attempt) := blk_cell hy3 6
  have y7 : w3.cell? ⟨yb, 7, none⟩ = some (.int .i64 node) := blk_cell hy3 7
  have y8 : w3.cell? ⟨yb, 8, none⟩ = some (.int .i64 how) := blk_cell hy3 8
  have y9 : w3.cell? ⟨yb, 9, none⟩ = some (.slice yo ym yc) := blk_cell hy3 9
  replace hb3 := Lib.hid hb3; replace hx3 := Lib.hid hx3; replace hy3 := Lib.hid hy3; replace hlow3 := Lib.hid hlow3
  go_wp2
  go_ret
  refine ⟨?_, hlow3.out⟩
  simp
set_option maxRecDepth 100000 in
set_option maxHeartbeats 6400000 in
theorem elong_any (X : Evv) (w : World) (hX : X.ok w) : Calls Tryd.prog 47 #[X.val] w fun e w' => (∃ b, e = .returned (.bool b)) ∧ Below w.heap.size w w' := by
  have hB0 := BoxE.new w X
  obtain ⟨⟨kk, epoch, tick, client, seq, job, attempt, node, how⟩, xo, xm, xc, xsp⟩ := X
  have y9 : (w.alloc (.cells (⟨⟨kk, epoch, tick, client, seq, job, attempt, node, how⟩, xo, xm, xc, xsp⟩ : Evv).cells 70 (0, 0))).cell? ⟨w.heap.size, 9, none⟩ = some (.slice xo xm xc) := blk_cell hB0.box 9
  have hmx := hX.sps.max
  have hml := hX.sps.len
  by_cases q : 12 < xm
  · have d1 : decide ((12 : Int) < (xm : Int)) = true := decide_eq_true (by omega)
    have d1' : decide (12 < xm) = true := decide_eq_true q
    replace hB0 := Lib.hid hB0; replace hX := Lib.hid hX; replace hml := Lib.hid hml
    go_enter Tryd.func47, Tryd.ntmps47
    go_wp2
    go_ret
    first | exact ⟨.inr rfl, hB0.out.low⟩ | exact ⟨.inl rfl, hB0.out.low⟩ | exact ⟨⟨true, rfl⟩, hB0.out.low⟩ | exact ⟨⟨false, rfl⟩, hB0.out.low⟩
  have d1 : decide ((12 : Int) < (xm : Int)) = false := decide_eq_false (by omega)
  have d1' : decide (12 < xm) = false := decide_eq_false q
  replace hB0 := Lib.hid hB0; replace hX := Lib.hid hX; replace hml := Lib.hid hml
  go_enter Tryd.func47, Tryd.ntmps47
  go_wp2
  go_loopw [3] (fun iv wr => ∃ k : Nat, iv = .int .i64 k ∧ k ≤ xm ∧ Hid (BoxE w (⟨⟨kk, epoch, tick, client, seq, job, attempt, node, how⟩, xo, xm, xc, xsp⟩ : Evv) wr)) (fun iv _ => xm - (intOf iv).toNat)
  case atStart => exact ⟨0, rfl, Nat.zero_le _, hB0.out⟩
  case round =>
    obtain ⟨k, rfl, hk, hB⟩ := hrel
    have z9 : wr.cell? ⟨w.heap.size, 9, none⟩ = some (.slice xo xm xc) := blk_cell hB.out.box 9
    by_cases hkm : k < xm
    · have hk1 : (k : Int) < xm := by omega
      have hk0 : (0 : Int) ≤ (k : Int) := by omega
      obtain ⟨s, hs⟩ : ∃ s, xsp[k]? = some s := ⟨_, List.getElem?_eq_getElem (by have h : xsp.length = xm := hml.out; omega)⟩
      have hsp : SpsAt wr xo xm xsp := hX.out.sps.low hB.out.low
      obtain ⟨b, off, rfl, hbl, hcell, hsok⟩ := hsp.cell k s hs
      obtain ⟨⟨user, part, nodes, ⟨da, db, dc, dd⟩, wall, prio, array, retries, held, after⟩, sso, sn, scp⟩ := s
      have c0 : wr.cell? ⟨b, off + k * 13, none⟩ = some (.string user) := hcell 0 (by omega)
      have c1 : wr.cell? ⟨b, off + k * 13 + 1, none⟩ = some (.string part) := hcell 1 (by omega)
      have c12 : wr.cell? ⟨b, off + k * 13 + 12, none⟩ = some (.slice sso sn scp) := hcell 12 (by omega)
      replace hs := Lib.hid hs; replace hsp := Lib.hid hsp; replace hcell := Lib.hid hcell; replace hsok := Lib.hid hsok
      go_upto_region 6 with fail
      by_cases q1 : 100 < sn
      · have e1 : decide ((100 : Int) < (sn : Int)) = true := decide_eq_true (by omega)
        have e1' : decide (100 < sn) = true := decide_eq_true q1
        replace q1 := Lib.hid q1
        go_wp2
        go_ret
        first | exact ⟨.inr rfl, hB.out.low⟩ | exact ⟨.inl rfl, hB.out.low⟩ | exact ⟨⟨true, rfl⟩, hB.out.low⟩ | exact ⟨⟨false, rfl⟩, hB.out.low⟩
      have e1 : decide ((100 : Int) < (sn : Int)) = false := decide_eq_false (by omega)
      have e1' : decide (100 < sn) = false := decide_eq_false q1
      by_cases q2 : 100 < user.size
      · have e2 : decide ((100 : Int) < (user.size : Int)) = true := decide_eq_true (by omega)
        have e2' : decide (100 < user.size) = true := decide_eq_true q2
        replace q1 := Lib.hid q1; replace q2 := Lib.hid q2
        go_wp2
        go_ret
        first | exact ⟨.inr rfl, hB.out.low⟩ | exact ⟨.inl rfl, hB.out.low⟩ | exact ⟨⟨true, rfl⟩, hB.out.low⟩ | exact ⟨⟨false, rfl⟩, hB.out.low⟩
      have e2 : decide ((100 : Int) < (user.size : Int)) = false := decide_eq_false (by omega)
      have e2' : decide (100 < user.size) = false := decide_eq_false q2
      by_cases q3 : 100 < part.size
      · have e3 : decide ((100 : Int) < (part.size : Int)) = true := decide_eq_true (by omega)
        have e3' : decide (100 < part.size) = true := decide_eq_true q3
        replace q1 := Lib.hid q1; replace q2 := Lib.hid q2; replace q3 := Lib.hid q3
        go_wp2
        go_ret
        first | exact ⟨.inr rfl, hB.out.low⟩ | exact ⟨.inl rfl, hB.out.low⟩ | exact ⟨⟨true, rfl⟩, hB.out.low⟩ | exact ⟨⟨false, rfl⟩, hB.out.low⟩
      have e3 : decide ((100 : Int) < (part.size : Int)) = false := decide_eq_false (by omega)
      have e3' : decide (100 < part.size) = false := decide_eq_false q3
      replace q1 := Lib.hid q1; replace q2 := Lib.hid q2; replace q3 := Lib.hid q3
      go_wp2
      go_roundw
      case rel => exact ⟨k + 1, by go_num, by omega, hB.out⟩
      case measure => simp [intOf]; omega
    · have hk1 : ¬ (k : Int) < xm := by omega
      go_wp2
      go_ret
      first | exact ⟨.inr rfl, hB.out.low⟩ | exact ⟨.inl rfl, hB.out.low⟩ | exact ⟨⟨true, rfl⟩, hB.out.low⟩ | exact ⟨⟨false, rfl⟩, hB.out.low⟩
end Go.Proofs.YteoihdkaoipocaaDoor
