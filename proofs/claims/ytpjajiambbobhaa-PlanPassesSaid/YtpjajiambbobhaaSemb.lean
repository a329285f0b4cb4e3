/- What Take and Give make of what is free; the least and the most over a span. -/
import Derived.Test.YtpjajiambbobhaaSem
namespace Go.Proofs.Ytpjajiambbobhaa
open Go.RowKit

def Unlike (l : List St) : Prop := ∀ i, i + 1 < l.length → (nth l i).f ≠ (nth l (i + 1)).f

theorem change_facts {l l' : List St} {fr tt : Int} {g : V4 → V4} (hl : Loose l) (h : ChangeRel l fr tt g l') (_h0 : 0 ≤ fr) (h1 : fr < tt) (h2 : tt ≤ 1099511627776) :
    Loose l' ∧ Unlike l' ∧ ∀ u, 0 ≤ u → u < 1099511627776 → val l' u = if fr ≤ u ∧ u < tt then g (val l u) else val l u := by
  obtain ⟨i, l1, e, l2, hc1, hc2, rfl⟩ := h
  obtain ⟨hl1, a1, a2, a3, a4, a5⟩ := hc1.facts hl (by omega)
  have key : Loose l2 ∧ i ≤ e ∧ e ≤ l2.length ∧ (nth l2 i).t = fr ∧ i < l2.length ∧ (∀ u, 0 ≤ u → val l2 u = val l1 u) ∧ (tt < 1099511627776 → e < l2.length ∧ (nth l2 e).t = tt) ∧ (tt = 1099511627776 → e = l2.length) := by
    rcases hc2 with ⟨ht, hc2⟩ | ⟨ht, rfl, rfl⟩
    · obtain ⟨hl2, b1, b2, b3, b4, b5⟩ := hc2.facts hl1 ht
      obtain ⟨c1, c2⟩ := b4 i a1 (by omega)
      exact ⟨hl2, by omega, by omega, by rw [c2]; exact a2, by omega, fun u hu => cut_val hl1 hc2 ht hu, fun _ => ⟨b1, b2⟩, fun h => by omega⟩
    · exact ⟨hl1, by omega, Nat.le_refl _, a2, a1, fun _ _ => rfl, fun h => by omega, fun _ => rfl⟩
  obtain ⟨hl2, k1, k2, k3, k4, k5, k6, k7⟩ := key
  obtain ⟨c1, c2, c3, c4⟩ := comp_facts (mapR_loose hl2 g k1 k2)
  refine ⟨c1, c4, fun u hu hu2 => ?_⟩
  obtain ⟨k, hk⟩ := place_ex hl2 hu
  rw [c2, mapR_val hl2 g k1 k2 hk, k5 u hu, cut_val hl hc1 (by omega) hu]
  have e1 : i ≤ k ↔ fr ≤ u := by
    constructor
    · intro hik
      by_cases e : i = k
      · subst e; have := hk.2.1; omega
      · have := hl2.rise i k (by omega) hk.1; have := hk.2.1; omega
    · intro hfu
      apply Classical.byContradiction
      intro hc
      have := hk.2.2 i (by omega) k4; omega
  have e2 : k < e ↔ u < tt := by
    have hk1 := hk.1
    by_cases ht : tt < 1099511627776
    · obtain ⟨g1, g2⟩ := k6 ht
      constructor
      · intro hke; have := hk.2.2 e hke g1; omega
      · intro hut
        apply Classical.byContradiction
        intro hc
        by_cases e' : e = k
        · subst e'; have := hk.2.1; omega
        · have := hl2.rise e k (by omega) hk.1; have := hk.2.1; omega
    · have := k7 (by omega)
      omega
  simp only [e1, e2]

/-- what steps are, told by what is free at each tick -/
structure Inv (whole : V4) (l : List St) : Prop where
  right : whole.right = true
  loose : Loose l
  unlike : Unlike l
  free : ∀ u, 0 ≤ u → u < 1099511627776 → (val l u).right = true ∧ (val l u).fits whole = true

def V4.leq (u v : V4) : Prop := u.a ≤ v.a ∧ u.b ≤ v.b ∧ u.c ≤ v.c ∧ u.d ≤ v.d
theorem fits_iff {u v : V4} : u.fits v = true ↔ u.leq v := by simp [V4.fits, V4.leq, and_assoc]
theorem fits_false {u v : V4} : u.fits v = false ↔ ¬ u.leq v := by rw [← fits_iff]; simp
theorem right_iff {u : V4} : u.right = true ↔ (0 ≤ u.a ∧ u.a ≤ 1073741824) ∧ (0 ≤ u.b ∧ u.b ≤ 1073741824) ∧ (0 ≤ u.c ∧ u.c ≤ 1073741824) ∧ (0 ≤ u.d ∧ u.d ≤ 1073741824) := by
  simp [V4.right, okn, and_assoc]

theorem sub_eq {u v : V4} (hu : u.right = true) (hv : v.right = true) (h : v.leq u) : u.sub v = (⟨u.a - v.a, u.b - v.b, u.c - v.c, u.d - v.d⟩, 0) := by
  have h1 := right_iff.1 hu; have h2 := right_iff.1 hv
  obtain ⟨a, b, c, d⟩ := h
  unfold V4.sub
  rw [if_pos ⟨hu, hv⟩]
  unfold V4.told
  rw [if_pos]
  rw [right_iff]
  refine ⟨⟨?_, ?_⟩, ⟨?_, ?_⟩, ⟨?_, ?_⟩, ⟨?_, ?_⟩⟩ <;> simp only <;> omega
theorem add_eq {u v : V4} (hu : u.right = true) (hv : v.right = true) (h : (⟨u.a + v.a, u.b + v.b, u.c + v.c, u.d + v.d⟩ : V4).right = true) : u.add v = (⟨u.a + v.a, u.b + v.b, u.c + v.c, u.d + v.d⟩, 0) := by
  unfold V4.add
  rw [if_pos ⟨hu, hv⟩]
  unfold V4.told
  rw [if_pos h]
theorem add_ne {u v : V4} (hu : u.right = true) (hv : v.right = true) (h : ¬ (⟨u.a + v.a, u.b + v.b, u.c + v.c, u.d + v.d⟩ : V4).right = true) : (u.add v).2 = 30 := by
  unfold V4.add
  rw [if_pos ⟨hu, hv⟩]
  unfold V4.told
  rw [if_neg h]

theorem val_nth {l : List St} (hl : Loose l) {i : Nat} (hi : i < l.length) : val l (nth l i).t = (nth l i).f :=
  val_place hl.rise ⟨hi, Int.le_refl _, fun j hj hj2 => hl.rise i j hj hj2⟩

/-- the greatest lower bound, resource by resource -/
structure IsMin (whole : V4) (S : Int → Prop) (F : Int → V4) (m : V4) : Prop where
  low : ∀ u, S u → m.leq (F u)
  cap : m.leq whole
  a : m.a = whole.a ∨ ∃ u, S u ∧ m.a = (F u).a
  b : m.b = whole.b ∨ ∃ u, S u ∧ m.b = (F u).b
  c : m.c = whole.c ∨ ∃ u, S u ∧ m.c = (F u).c
  d : m.d = whole.d ∨ ∃ u, S u ∧ m.d = (F u).d
structure IsMax (S : Int → Prop) (F : Int → V4) (m : V4) : Prop where
  high : ∀ u, S u → (F u).leq m
  a0 : 0 ≤ m.a ∧ 0 ≤ m.b ∧ 0 ≤ m.c ∧ 0 ≤ m.d
  a : m.a = 0 ∨ ∃ u, S u ∧ m.a = (F u).a
  b : m.b = 0 ∨ ∃ u, S u ∧ m.b = (F u).b
  c : m.c = 0 ∨ ∃ u, S u ∧ m.c = (F u).c
  d : m.d = 0 ∨ ∃ u, S u ∧ m.d = (F u).d

theorem V4.leq.refl (u : V4) : u.leq u := ⟨Int.le_refl _, Int.le_refl _, Int.le_refl _, Int.le_refl _⟩
theorem V4.leq.trans {u v x : V4} (h : u.leq v) (k : v.leq x) : u.leq x := ⟨Int.le_trans h.1 k.1, Int.le_trans h.2.1 k.2.1, Int.le_trans h.2.2.1 k.2.2.1, Int.le_trans h.2.2.2 k.2.2.2⟩
theorem least_leq (u v : V4) : (u.least v).leq u ∧ (u.least v).leq v := by
  simp only [V4.least, V4.leq]; omega
theorem most_leq (u v : V4) : u.leq (u.most v) ∧ v.leq (u.most v) := by
  simp only [V4.most, V4.leq]; omega
theorem minAll_low (v : V4) (l : List St) : (minAll v l).leq v ∧ ∀ x ∈ l, (minAll v l).leq x.f := by
  induction l generalizing v with
  | nil => exact ⟨V4.leq.refl _, by simp⟩
  | cons s r ih =>
    obtain ⟨h1, h2⟩ := ih (v.least s.f)
    refine ⟨h1.trans (least_leq _ _).1, fun x hx => ?_⟩
    rcases List.mem_cons.1 hx with rfl | h
    · exact h1.trans (least_leq _ _).2
    · exact h2 x h
theorem maxAll_high (v : V4) (l : List St) : v.leq (maxAll v l) ∧ ∀ x ∈ l, x.f.leq (maxAll v l) := by
  induction l generalizing v with
  | nil => exact ⟨V4.leq.refl _, by simp⟩
  | cons s r ih =>
    obtain ⟨h1, h2⟩ := ih (v.most s.f)
    refine ⟨(most_leq _ _).1.trans h1, fun x hx => ?_⟩
    rcases List.mem_cons.1 hx with rfl | h
    · exact (most_leq _ _).2.trans h1
    · exact h2 x h
theorem minAll_at (v : V4) (l : List St) : ((minAll v l).a = v.a ∨ ∃ x ∈ l, (minAll v l).a = x.f.a) ∧ ((minAll v l).b = v.b ∨ ∃ x ∈ l, (minAll v l).b = x.f.b) ∧
    ((minAll v l).c = v.c ∨ ∃ x ∈ l, (minAll v l).c = x.f.c) ∧ ((minAll v l).d = v.d ∨ ∃ x ∈ l, (minAll v l).d = x.f.d) := by
  induction l generalizing v with
  | nil => exact ⟨.inl rfl, .inl rfl, .inl rfl, .inl rfl⟩
  | cons s r ih =>
    obtain ⟨ha, hb, hc, hd⟩ := ih (v.least s.f)
    simp only [minAll]
    refine ⟨?_, ?_, ?_, ?_⟩
    · rcases ha with h | ⟨x, hx, h⟩
      · rw [h]; simp only [V4.least]
        by_cases hlt : v.a ≤ s.f.a
        · exact .inl (by omega)
        · exact .inr ⟨s, by simp, by omega⟩
      · exact .inr ⟨x, by simp [hx], h⟩
    · rcases hb with h | ⟨x, hx, h⟩
      · rw [h]; simp only [V4.least]
        by_cases hlt : v.b ≤ s.f.b
        · exact .inl (by omega)
        · exact .inr ⟨s, by simp, by omega⟩
      · exact .inr ⟨x, by simp [hx], h⟩
    · rcases hc with h | ⟨x, hx, h⟩
      · rw [h]; simp only [V4.least]
        by_cases hlt : v.c ≤ s.f.c
        · exact .inl (by omega)
        · exact .inr ⟨s, by simp, by omega⟩
      · exact .inr ⟨x, by simp [hx], h⟩
    · rcases hd with h | ⟨x, hx, h⟩
      · rw [h]; simp only [V4.least]
        by_cases hlt : v.d ≤ s.f.d
        · exact .inl (by omega)
        · exact .inr ⟨s, by simp, by omega⟩
      · exact .inr ⟨x, by simp [hx], h⟩

theorem maxAll_at (v : V4) (l : List St) : ((maxAll v l).a = v.a ∨ ∃ x ∈ l, (maxAll v l).a = x.f.a) ∧ ((maxAll v l).b = v.b ∨ ∃ x ∈ l, (maxAll v l).b = x.f.b) ∧
    ((maxAll v l).c = v.c ∨ ∃ x ∈ l, (maxAll v l).c = x.f.c) ∧ ((maxAll v l).d = v.d ∨ ∃ x ∈ l, (maxAll v l).d = x.f.d) := by
  induction l generalizing v with
  | nil => exact ⟨.inl rfl, .inl rfl, .inl rfl, .inl rfl⟩
  | cons s r ih =>
    obtain ⟨ha, hb, hc, hd⟩ := ih (v.most s.f)
    simp only [maxAll]
    refine ⟨?_, ?_, ?_, ?_⟩
    · rcases ha with h | ⟨x, hx, h⟩
      · rw [h]; simp only [V4.most]
        by_cases hlt : s.f.a ≤ v.a
        · exact .inl (by omega)
        · exact .inr ⟨s, by simp, by omega⟩
      · exact .inr ⟨x, by simp [hx], h⟩
    · rcases hb with h | ⟨x, hx, h⟩
      · rw [h]; simp only [V4.most]
        by_cases hlt : s.f.b ≤ v.b
        · exact .inl (by omega)
        · exact .inr ⟨s, by simp, by omega⟩
      · exact .inr ⟨x, by simp [hx], h⟩
    · rcases hc with h | ⟨x, hx, h⟩
      · rw [h]; simp only [V4.most]
        by_cases hlt : s.f.c ≤ v.c
        · exact .inl (by omega)
        · exact .inr ⟨s, by simp, by omega⟩
      · exact .inr ⟨x, by simp [hx], h⟩
    · rcases hd with h | ⟨x, hx, h⟩
      · rw [h]; simp only [V4.most]
        by_cases hlt : s.f.d ≤ v.d
        · exact .inl (by omega)
        · exact .inr ⟨s, by simp, by omega⟩
      · exact .inr ⟨x, by simp [hx], h⟩

/-- the steps of a span: those of its ticks -/
theorem span_steps {l : List St} (hl : Loose l) {A B : Int} (hA : 0 ≤ A) (hAB : A < B) : ∃ n, n ≤ (l.drop (pl l A)).length ∧ (∀ j, j < n → (nth (l.drop (pl l A)) j).t < B) ∧ (n < (l.drop (pl l A)).length → B ≤ (nth (l.drop (pl l A)) n).t) ∧
    (∀ x ∈ (l.drop (pl l A)).take n, ∃ u, A ≤ u ∧ u < B ∧ x.f = val l u) ∧ (∀ u, A ≤ u → u < B → ∃ x ∈ (l.drop (pl l A)).take n, val l u = x.f) := by
  obtain ⟨k, hk⟩ := place_ex hl hA
  have hpl := hk.eq_pl hl.rise
  rw [← hpl]
  obtain ⟨n, hn1, hn2, hn3⟩ : ∃ n, n ≤ (l.drop k).length ∧ (∀ j, j < n → (nth (l.drop k) j).t < B) ∧ (n < (l.drop k).length → B ≤ (nth (l.drop k) n).t) := by
    have key : ∀ n, n ≤ (l.drop k).length → (∃ m, m ≤ (l.drop k).length ∧ (∀ j, j < m → (nth (l.drop k) j).t < B) ∧ (m < (l.drop k).length → B ≤ (nth (l.drop k) m).t)) ∨ (∀ j, j < n → (nth (l.drop k) j).t < B) := by
      intro n
      induction n with
      | zero => intro _; right; intro j hj; omega
      | succ n ih =>
        intro hn
        rcases ih (by omega) with h | h
        · exact .inl h
        · by_cases hc : (nth (l.drop k) n).t < B
          · right; intro j hj
            by_cases e : j = n
            · subst e; exact hc
            · exact h j (by omega)
          · exact .inl ⟨n, by omega, h, fun _ => by omega⟩
    rcases key _ (Nat.le_refl _) with h | h
    · exact h
    · exact ⟨_, Nat.le_refl _, h, fun h => absurd h (by omega)⟩
  refine ⟨n, hn1, hn2, hn3, fun x hx => ?_, fun u h1 h2 => ?_⟩
  · obtain ⟨i, hi, rfl⟩ := mem_nth hx
    rw [List.length_take, List.length_drop] at hi
    rw [nth_take _ _ _ (by omega), nth_drop]
    have hlt := hn2 i (by omega)
    rw [nth_drop] at hlt
    by_cases e : i = 0
    · subst e
      exact ⟨A, Int.le_refl _, hAB, (val_place hl.rise hk).symm⟩
    · refine ⟨(nth l (k + i)).t, ?_, hlt, (val_nth hl (by omega)).symm⟩
      have := hk.2.2 (k + i) (by omega) (by omega); omega
  · obtain ⟨j, hj⟩ := place_ex hl (u := u) (by omega)
    have hjk : k ≤ j := by
      apply Classical.byContradiction
      intro hc
      have := hj.2.2 k (by omega) hk.1
      have := hk.2.1; omega
    have hj1 := hj.1
    have hjn : j - k < n := by
      apply Classical.byContradiction
      intro hc
      rw [List.length_drop] at hn3 hn1
      have h3 := hn3 (by omega)
      rw [nth_drop] at h3
      by_cases e : k + n = j
      · rw [e] at h3; have := hj.2.1; omega
      · have := hl.rise (k + n) j (by omega) hj.1; have := hj.2.1; omega
    refine ⟨nth ((l.drop k).take n) (j - k), nth_mem (by rw [List.length_take, List.length_drop]; omega), ?_⟩
    rw [nth_take _ _ _ hjn, nth_drop, show k + (j - k) = j by omega]
    exact val_place hl.rise hj

theorem free_min {whole : V4} {l : List St} (hl : Loose l) (fr tt : Int) : IsMin whole (fun u => max fr 0 ≤ u ∧ u < min tt 1099511627776) (val l) (freeL whole l fr tt) := by
  unfold freeL
  by_cases h : min tt 1099511627776 ≤ max fr 0
  · rw [if_pos h]
    exact ⟨fun u hu => by omega, ⟨Int.le_refl _, Int.le_refl _, Int.le_refl _, Int.le_refl _⟩, .inl rfl, .inl rfl, .inl rfl, .inl rfl⟩
  · rw [if_neg h]
    obtain ⟨n, n1, n2, n3, n4, n5⟩ := span_steps hl (A := max fr 0) (B := min tt 1099511627776) (by omega) (by omega)
    rw [minOver_eq _ _ n n1 whole n2 n3]
    obtain ⟨m1, m2⟩ := minAll_low whole ((l.drop (pl l (max fr 0))).take n)
    obtain ⟨ma, mb, mc, md⟩ := minAll_at whole ((l.drop (pl l (max fr 0))).take n)
    refine ⟨fun u hu => ?_, m1, ?_, ?_, ?_, ?_⟩
    · obtain ⟨x, hx, e⟩ := n5 u hu.1 hu.2
      rw [e]; exact m2 x hx
    · rcases ma with h | ⟨x, hx, h⟩
      · exact .inl h
      · obtain ⟨u, u1, u2, e⟩ := n4 x hx; exact .inr ⟨u, ⟨u1, u2⟩, by rw [h, e]⟩
    · rcases mb with h | ⟨x, hx, h⟩
      · exact .inl h
      · obtain ⟨u, u1, u2, e⟩ := n4 x hx; exact .inr ⟨u, ⟨u1, u2⟩, by rw [h, e]⟩
    · rcases mc with h | ⟨x, hx, h⟩
      · exact .inl h
      · obtain ⟨u, u1, u2, e⟩ := n4 x hx; exact .inr ⟨u, ⟨u1, u2⟩, by rw [h, e]⟩
    · rcases md with h | ⟨x, hx, h⟩
      · exact .inl h
      · obtain ⟨u, u1, u2, e⟩ := n4 x hx; exact .inr ⟨u, ⟨u1, u2⟩, by rw [h, e]⟩

theorem most_max {l : List St} (hl : Loose l) {fr tt : Int} (h0 : 0 ≤ fr) (h1 : fr < tt) : IsMax (fun u => fr ≤ u ∧ u < tt) (val l) (mostL l fr tt) := by
  unfold mostL
  obtain ⟨n, n1, n2, n3, n4, n5⟩ := span_steps hl h0 h1
  rw [maxOver_eq _ _ n n1 V4.zero n2 n3]
  obtain ⟨m1, m2⟩ := maxAll_high V4.zero ((l.drop (pl l fr)).take n)
  obtain ⟨ma, mb, mc, md⟩ := maxAll_at V4.zero ((l.drop (pl l fr)).take n)
  refine ⟨fun u hu => ?_, m1, ?_, ?_, ?_, ?_⟩
  · obtain ⟨x, hx, e⟩ := n5 u hu.1 hu.2
    rw [e]; exact m2 x hx
  · rcases ma with h | ⟨x, hx, h⟩
    · exact .inl h
    · obtain ⟨u, u1, u2, e⟩ := n4 x hx; exact .inr ⟨u, ⟨u1, u2⟩, by rw [h, e]⟩
  · rcases mb with h | ⟨x, hx, h⟩
    · exact .inl h
    · obtain ⟨u, u1, u2, e⟩ := n4 x hx; exact .inr ⟨u, ⟨u1, u2⟩, by rw [h, e]⟩
  · rcases mc with h | ⟨x, hx, h⟩
    · exact .inl h
    · obtain ⟨u, u1, u2, e⟩ := n4 x hx; exact .inr ⟨u, ⟨u1, u2⟩, by rw [h, e]⟩
  · rcases md with h | ⟨x, hx, h⟩
    · exact .inl h
    · obtain ⟨u, u1, u2, e⟩ := n4 x hx; exact .inr ⟨u, ⟨u1, u2⟩, by rw [h, e]⟩
end Go.Proofs.Ytpjajiambbobhaa
