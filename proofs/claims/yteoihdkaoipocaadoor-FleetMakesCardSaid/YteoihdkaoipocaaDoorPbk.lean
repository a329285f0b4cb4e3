/- The text of right nodes is read as these nodes: plain. -/
import Derived.Test.YteoihdkaoipocaaDoorRft
namespace Go.Proofs.YteoihdkaoipocaaDoor
open Go.RowKit

def digC (c : UInt8) : Prop := 48 ≤ c.toNat ∧ c.toNat ≤ 57
theorem dec_chars : ∀ (u : Nat), ∀ c, c ∈ Lib.decDigits u → digC c := by
  intro u
  induction u using Nat.strongRecOn with
  | _ u ih =>
    intro c hc
    have one : ∀ d, d < 10 → digC (UInt8.ofNat (48 + d)) := fun d hd => by
      unfold digC
      rw [UInt8.toNat_ofNat']
      omega
    rw [Lib.decDigits] at hc
    split at hc
    · next h =>
      have : c = UInt8.ofNat (48 + u) := by simpa using hc
      subst this
      exact one u h
    · next h =>
      rcases List.mem_append.1 hc with hc | hc
      · exact ih (u / 10) (by omega) c hc
      · have : c = UInt8.ofNat (48 + u % 10) := by simpa using hc
        subst this
        exact one (u % 10) (by omega)
theorem dec_ne (u : Nat) : Lib.decDigits u ≠ [] := by
  rw [Lib.decDigits]
  split <;> simp
theorem chz_app {a b : List UInt8} {k : Nat} (h : k < a.length) : chz (ofL (a ++ b)) k = chz (ofL a) k := by
  unfold chz
  rw [ofL_toL, ofL_toL, List.getD, List.getD, List.getElem?_append_left h]
theorem chz_last (a : List UInt8) (x : UInt8) : chz (ofL (a ++ [x])) a.length = (x.toNat : Int) := by
  unfold chz
  rw [ofL_toL, List.getD, List.getElem?_append_right (Nat.le_refl _)]
  simp
theorem numTo_app {a b : List UInt8} : ∀ {k : Nat}, k ≤ a.length → numTo (ofL (a ++ b)) k = numTo (ofL a) k
  | 0, _ => rfl
  | k + 1, h => by
    simp only [numTo]
    rw [numTo_app (by omega), chz_app (by omega)]
theorem digTo_all {l : List UInt8} (h : ∀ c, c ∈ l → digC c) : ∀ {k : Nat}, k ≤ l.length → digTo (ofL l) k = true
  | 0, _ => rfl
  | k + 1, hk => by
    simp only [digTo, Bool.and_eq_true]
    refine ⟨digTo_all h (by omega), ?_⟩
    rw [isDig_iff]
    have hm : l.getD k 0 ∈ l := by
      rw [List.getD, List.getElem?_eq_getElem (by omega)]
      exact List.getElem_mem _
    have := h _ hm
    unfold chz
    rw [ofL_toL]
    unfold digC at this
    omega
theorem dec_num : ∀ (u : Nat), numTo (ofL (Lib.decDigits u)) (Lib.decDigits u).length = (u : Int) := by
  intro u
  induction u using Nat.strongRecOn with
  | _ u ih =>
    by_cases h : u < 10
    · rw [Lib.decDigits, dif_pos h]
      have := chz_last [] (UInt8.ofNat (48 + u))
      simp only [List.nil_append, List.length_nil] at this
      simp only [List.length_cons, List.length_nil, numTo, this, UInt8.toNat_ofNat']
      omega
    · rw [Lib.decDigits, dif_neg h, List.length_append]
      simp only [List.length_cons, List.length_nil]
      show 10 * numTo _ (Lib.decDigits (u / 10)).length + (chz _ (Lib.decDigits (u / 10)).length - 48) = _
      rw [numTo_app (Nat.le_refl _), ih (u / 10) (by omega), chz_last, UInt8.toNat_ofNat']
      omega
theorem dec_head : ∀ (u : Nat), 0 < u → (Lib.decDigits u).getD 0 0 ≠ 48 := by
  intro u
  induction u using Nat.strongRecOn with
  | _ u ih =>
    intro hu e
    by_cases h : u < 10
    · rw [Lib.decDigits, dif_pos h] at e
      have := congrArg UInt8.toNat e
      simp [UInt8.toNat_ofNat'] at this
      omega
    · rw [Lib.decDigits, dif_neg h] at e
      refine ih (u / 10) (by omega) (by omega) ?_
      have hp := List.length_pos_iff.2 (dec_ne (u / 10))
      rw [List.getD, List.getElem?_append_left hp] at e
      exact e
theorem numOf_dec {u : Nat} (hu : u ≤ 1073741824) : numOf (ofL (Lib.decDigits u)) 10 = (u : Int) := by
  have h10 : (10 : Nat) ^ (9 + 1) = 10000000000 := by decide
  have hl : (Lib.decDigits u).length ≤ 10 := dec_len 9 u (by rw [h10]; omega)
  have hp := List.length_pos_iff.2 (dec_ne u)
  unfold numOf
  rw [ofL_size, if_neg, if_pos (digTo_all (dec_chars u) (Nat.le_refl _)), dec_num]
  rintro (h | h | ⟨h, e⟩)
  · omega
  · omega
  · have h0 : 0 < u := by
      rcases Nat.eq_zero_or_pos u with rfl | h0
      · rw [Lib.decDigits, dif_pos (by omega)] at h; simp at h
      · exact h0
    refine dec_head u h0 ?_
    unfold chz at e
    rw [ofL_toL] at e
    exact UInt8.toNat_inj.1 (by have : (48 : UInt8).toNat = 48 := rfl; omega)
theorem itoa_pos {n : Int} (h : 0 ≤ n) : Lib.itoa n = Lib.decDigits n.toNat := if_neg (by omega)
theorem itoa_chars {n : Int} (h : 0 ≤ n) : ∀ c, c ∈ Lib.itoa n → digC c := by rw [itoa_pos h]; exact dec_chars _
theorem numOf_itoa {n : Int} (h0 : 0 ≤ n) (h1 : n ≤ 1073741824) : numOf (ofL (Lib.itoa n)) 10 = n := by
  rw [itoa_pos h0, numOf_dec (by omega)]
  omega
theorem not_mem_dig {x : UInt8} {l : List UInt8} (h : ∀ c, c ∈ l → digC c) (hx : x.toNat < 48 ∨ 57 < x.toNat) : x ∉ l := fun hm => by
  have := h x hm
  unfold digC at this
  omega
theorem vecOf_txt {v : V4} (h : v.right = true) : vecOf (ofL (txtV v)) = (v, 0) := by
  obtain ⟨h1, h2, h3, h4, h5, h6, h7, h8⟩ := capOk_right h
  have n44 : ∀ {n : Int}, 0 ≤ n → (44 : UInt8) ∉ Lib.itoa n := fun hn => not_mem_dig (itoa_chars hn) (by decide)
  have e : cutAll 44 (ofL (txtV v)).data.toList = [Lib.itoa v.a, Lib.itoa v.b, Lib.itoa v.c, Lib.itoa v.d] := by
    rw [ofL_toL]
    unfold txtV
    rw [show Lib.itoa v.a ++ [44] ++ Lib.itoa v.b ++ [44] ++ Lib.itoa v.c ++ [44] ++ Lib.itoa v.d = Lib.itoa v.a ++ 44 :: (Lib.itoa v.b ++ 44 :: (Lib.itoa v.c ++ 44 :: Lib.itoa v.d)) by simp]
    rw [cutAll_hit (n44 h1), cutAll_hit (n44 h3), cutAll_hit (n44 h5), cutAll_no (n44 h7)]
  unfold vecOf
  rw [e, if_pos (show [Lib.itoa v.a, Lib.itoa v.b, Lib.itoa v.c, Lib.itoa v.d].length = 4 from rfl)]
  have e2 : vecP [Lib.itoa v.a, Lib.itoa v.b, Lib.itoa v.c, Lib.itoa v.d] = v := by
    show (⟨numOf (ofL (Lib.itoa v.a)) 10, numOf (ofL (Lib.itoa v.b)) 10, numOf (ofL (Lib.itoa v.c)) 10, numOf (ofL (Lib.itoa v.d)) 10⟩ : V4) = v
    rw [numOf_itoa h1 h2, numOf_itoa h3 h4, numOf_itoa h5 h6, numOf_itoa h7 h8]
  rw [e2]
  unfold V4.told
  rw [if_pos h]
theorem name_chars {s : ByteArray} (h : isName s = true) : ∀ c, c ∈ s.data.toList → nameCh (c.toNat : Int) = true := fun c hc => by
  simp only [isName, Bool.and_eq_true] at h
  obtain ⟨k, hk, e⟩ := List.mem_iff_getElem.1 hc
  have hs : s.data.toList.length = s.size := toL_len s
  have := nameTo_le h.2 (show k + 1 ≤ s.size by omega)
  simp only [nameTo, Bool.and_eq_true] at this
  have h2 := this.2
  unfold chz at h2
  rw [List.getD, List.getElem?_eq_getElem hk, e] at h2
  exact h2
theorem name_not {s : ByteArray} (h : isName s = true) {x : UInt8} (hx : nameCh (x.toNat : Int) = false) : x ∉ s.data.toList := fun hm => by
  have := name_chars h x hm
  rw [hx] at this
  cases this
theorem name_pos {s : ByteArray} (h : isName s = true) : s.data.toList ≠ [] := fun e => by
  simp only [isName, Bool.and_eq_true, decide_eq_true_eq] at h
  have hs : s.data.toList.length = s.size := toL_len s
  rw [e] at hs
  simp at hs
  omega
/-- a node's line without its end -/
def bodyV (v : Ndv) : List UInt8 := v.name.data.toList ++ [32] ++ txtV v.cap ++ tailP v.parts
theorem cut_tail {a : List UInt8} (ha : (32 : UInt8) ∉ a) : ∀ {ps : List ByteArray}, (∀ p, p ∈ ps → isName p = true) → cutAll 32 (a ++ tailP ps) = a :: ps.map (·.data.toList)
  | [], _ => by simp [tailP, cutAll_no ha]
  | p :: ps, h => by
    rw [show a ++ tailP (p :: ps) = a ++ 32 :: (p.data.toList ++ tailP ps) by simp [tailP], cutAll_hit ha]
    rw [cut_tail (name_not (h p (by simp)) (by decide)) fun q hq => h q (by simp [hq])]
    rfl
theorem txt_not {v : V4} (h : v.right = true) {x : UInt8} (hx : (x.toNat < 48 ∨ 57 < x.toNat) ∧ x ≠ 44) : x ∉ txtV v := by
  obtain ⟨h1, h2, h3, h4, h5, h6, h7, h8⟩ := capOk_right h
  have n : ∀ {n : Int}, 0 ≤ n → x ∉ Lib.itoa n := fun hn => not_mem_dig (itoa_chars hn) hx.1
  unfold txtV
  simp only [List.mem_append, List.mem_singleton]
  rintro ((((((h | h) | h) | h) | h) | h) | h)
  · exact n h1 h
  · exact hx.2 h
  · exact n h3 h
  · exact hx.2 h
  · exact n h5 h
  · exact hx.2 h
  · exact n h7 h
theorem nodeOf_body {v : Ndv} (h : NdvAll v) : nodeOf (ofL (bodyV v)) = some v := by
  have hw : words (ofL (bodyV v)) = v.name :: ofL (txtV v.cap) :: v.parts := by
    unfold words
    rw [ofL_toL]
    unfold bodyV
    rw [show v.name.data.toList ++ [32] ++ txtV v.cap ++ tailP v.parts = v.name.data.toList ++ 32 :: (txtV v.cap ++ tailP v.parts) by simp]
    rw [cutAll_hit (name_not h.ok.name (by decide)), cut_tail (txt_not h.ok.cap (by decide)) h.ok.parts]
    rw [List.map_cons, List.map_cons, ofL_self, List.map_map]
    rw [show (ofL ∘ fun (x : ByteArray) => x.data.toList) = id from by funext x; exact ofL_self x, List.map_id]
  have w0 : wrd (ofL (bodyV v)) 0 = v.name := by unfold wrd; rw [hw]; rfl
  have w1 : wrd (ofL (bodyV v)) 1 = ofL (txtV v.cap) := by unfold wrd; rw [hw]; rfl
  have hd : (words (ofL (bodyV v))).drop 2 = v.parts := by rw [hw]; rfl
  have hy : nodeOk (ofL (bodyV v)) := by
    refine ⟨?_, by rw [w0]; exact h.ok.name, by rw [hd]; exact h.ok.parts, by rw [w1, vecOf_txt h.ok.cap]⟩
    rw [hw]
    have := h.ok.one
    simp
    omega
  rw [nodeOf_yes hy, w0, w1, hd, vecOf_txt h.ok.cap]
theorem body_not {v : Ndv} (h : NdvAll v) : (10 : UInt8) ∉ bodyV v := by
  unfold bodyV
  simp only [List.mem_append, List.mem_singleton]
  rintro (((h1 | h1) | h1) | h1)
  · exact name_not h.ok.name (by decide) h1
  · exact absurd h1 (by decide)
  · exact txt_not h.ok.cap (by decide) h1
  · unfold tailP at h1
    obtain ⟨p, hp, hc⟩ := List.mem_flatMap.1 h1
    rcases List.mem_cons.1 hc with hc | hc
    · exact absurd hc (by decide)
    · exact name_not (h.ok.parts p hp) (by decide) hc
theorem body_says {v : Ndv} (h : NdvAll v) : saysB (bodyV v) = true := by
  cases e : v.name.data.toList with
  | nil => exact absurd e (name_pos h.ok.name)
  | cons c r =>
    have hb : bodyV v = c :: (r ++ [32] ++ txtV v.cap ++ tailP v.parts) := by unfold bodyV; rw [e]; rfl
    rw [hb]
    show decide (c ≠ 35) = true
    refine decide_eq_true fun hc => ?_
    exact name_not h.ok.name (x := 35) (by decide) (by rw [e, hc]; simp)
theorem lineV_body {v : Ndv} (h : NdvAll v) : lineV v = bodyV v ++ [10] := by
  rw [lineV_tail (by intro e; have := h.ok.one; rw [e] at this; simp at this)]
  rfl
theorem putE_ok {xs : List Ndv} {v : Ndv} {r : List Ndv} (h : FltOk (xs ++ v :: r)) : putE (xs.map Ndv.name) xs.length v.name v.parts = 0 := by
  have hv := h.all v (by simp)
  have hn := h.nodup
  have hl := h.len
  rw [List.map_append, List.map_cons, List.nodup_append] at hn
  simp at hl
  unfold putE
  rw [if_neg (fun c => (hn.2.2 _ (memB_iff.1 c) _ (List.mem_cons_self ..)) rfl), if_neg (by rw [hv.once]; simp), if_neg (by have := hv.few; omega)]
theorem read_lines : ∀ (r xs : List Ndv) (n : Nat), FltOk (xs ++ r) → readTo xs (said n (cutAll 10 (textOf r))) = (xs ++ r, 0, 0)
  | [], xs, n, _ => by
    rw [List.append_nil]
    rfl
  | v :: r, xs, n, h => by
    have hv := h.all v (by simp)
    have e : textOf (v :: r) = bodyV v ++ 10 :: textOf r := by
      unfold textOf
      rw [List.flatMap_cons, lineV_body hv]
      simp
    rw [e, cutAll_hit (body_not hv)]
    simp only [said]
    rw [if_pos (body_says hv)]
    simp only [readTo, nodeOf_body hv]
    rw [if_pos (putE_ok h), read_lines r (xs ++ [v]) (n + 1) (by simpa using h)]
    simp
/-- what a fleet tells is read as the same fleet -/
theorem readOf_text {vs : List Ndv} (h : FltOk vs) : readOf (ofL (textOf vs)) = (vs, 0, 0) := by
  have hl := textOf_len h.all
  have hn := h.len
  unfold readOf
  rw [if_neg (by rw [ofL_size]; have : vs.length * 240 ≤ 16 * 240 := Nat.mul_le_mul_right _ hn; omega)]
  unfold linesOf
  rw [ofL_toL, read_lines vs [] 0 (by simpa using h)]
  rfl
end Go.Proofs.YteoihdkaoipocaaDoor
