/- What is taken and given back changes nothing: the plain law; and blocks that stay. -/
import Derived.Test.YtpjajiambbobhaaSemc
namespace Go.Proofs.Ytpjajiambbobhaa
open Go.RowKit

theorem IsMin.le {whole : V4} {S : Int → Prop} {F F' : Int → V4} {m m' : V4} (h : IsMin whole S F m) (h' : IsMin whole S F' m') (e : ∀ u, S u → F u = F' u) : m.leq m' := by
  refine ⟨?_, ?_, ?_, ?_⟩
  · rcases h'.a with h1 | ⟨u, hu, h1⟩
    · rw [h1]; exact h.cap.1
    · rw [h1, ← e u hu]; exact (h.low u hu).1
  · rcases h'.b with h1 | ⟨u, hu, h1⟩
    · rw [h1]; exact h.cap.2.1
    · rw [h1, ← e u hu]; exact (h.low u hu).2.1
  · rcases h'.c with h1 | ⟨u, hu, h1⟩
    · rw [h1]; exact h.cap.2.2.1
    · rw [h1, ← e u hu]; exact (h.low u hu).2.2.1
  · rcases h'.d with h1 | ⟨u, hu, h1⟩
    · rw [h1]; exact h.cap.2.2.2
    · rw [h1, ← e u hu]; exact (h.low u hu).2.2.2
theorem V4.leq.antisymm {u v : V4} (h : u.leq v) (k : v.leq u) : u = v := by
  obtain ⟨a, b, c, d⟩ := u; obtain ⟨a', b', c', d'⟩ := v
  obtain ⟨h1, h2, h3, h4⟩ := h
  obtain ⟨k1, k2, k3, k4⟩ := k
  simp only at h1 h2 h3 h4 k1 k2 k3 k4
  simp only [V4.mk.injEq]; omega
theorem IsMin.unique {whole : V4} {S : Int → Prop} {F F' : Int → V4} {m m' : V4} (h : IsMin whole S F m) (h' : IsMin whole S F' m') (e : ∀ u, S u → F u = F' u) : m = m' :=
  (h.le h' e).antisymm (h'.le h fun u hu => (e u hu).symm)

theorem free_ahead {whole : V4} {l l' : List St} (hi : Inv whole l) (hi' : Inv whole l') {fr tt fr' tt' : Int} (h : ∀ u, max fr' 0 ≤ u → u < min tt' 1099511627776 → val l' u = val l u) (_h : fr = tt ∨ True) : freeL whole l' fr' tt' = freeL whole l fr' tt' :=
  (free_min hi'.loose fr' tt').unique (free_min hi.loose fr' tt') fun u hu => h u hu.1 hu.2

theorem free_taken {whole : V4} {l l' : List St} {fr tt : Int} {v : V4} (hi : Inv whole l) (hi' : Inv whole l') (hs : spanL fr tt v = true) (hv : ∀ u, 0 ≤ u → u < 1099511627776 → val l' u = if fr ≤ u ∧ u < tt then sub4 (val l u) v else val l u) :
    freeL whole l' fr tt = sub4 (freeL whole l fr tt) v ∧ (0 ≤ (freeL whole l' fr tt).a ∧ 0 ≤ (freeL whole l' fr tt).b ∧ 0 ≤ (freeL whole l' fr tt).c ∧ 0 ≤ (freeL whole l' fr tt).d) := by
  obtain ⟨b1, b2, b3, b4⟩ := spanL_true hs
  have m := free_min (whole := whole) hi.loose fr tt
  have m' := free_min (whole := whole) hi'.loose fr tt
  obtain ⟨x, hx⟩ : ∃ x, x = freeL whole l fr tt := ⟨_, rfl⟩
  obtain ⟨y, hy⟩ : ∃ y, y = freeL whole l' fr tt := ⟨_, rfl⟩
  rw [← hx] at m; rw [← hy] at m'
  rw [← hx, ← hy]
  have hS : ∀ u, max fr 0 ≤ u ∧ u < min tt 1099511627776 → val l' u = sub4 (val l u) v := fun u hu => by rw [hv u (by omega) (by omega), if_pos (by omega)]
  have hf := m.low fr ⟨by omega, by omega⟩
  have hf' := m'.low fr ⟨by omega, by omega⟩
  rw [hS fr ⟨by omega, by omega⟩] at hf'
  have hw := fits_iff.1 (hi.free fr b1 (by omega)).2
  have hr := right_iff.1 b4
  have hwr := right_iff.1 hi.right
  have hpos : ∀ u, max fr 0 ≤ u ∧ u < min tt 1099511627776 → (0 ≤ (val l' u).a ∧ 0 ≤ (val l' u).b ∧ 0 ≤ (val l' u).c ∧ 0 ≤ (val l' u).d) := fun u hu => by
    have := right_iff.1 (hi'.free u (by omega) (by omega)).1; omega
  obtain ⟨f1, f2, f3, f4⟩ := hf
  obtain ⟨g1, g2, g3, g4⟩ := hf'
  simp only [sub4] at g1 g2 g3 g4
  obtain ⟨w1, w2, w3, w4⟩ := hw
  have ea : y.a = x.a - v.a ∧ 0 ≤ y.a := by
    have h1 : y.a ≤ x.a - v.a := by
      rcases m.a with h | ⟨u, hu, h⟩
      · omega
      · have := (m'.low u hu).1; rw [hS u hu] at this; simp only [sub4] at this; omega
    rcases m'.a with h | ⟨u, hu, h⟩
    · have := m.cap.1; omega
    · have := (m.low u hu).1; have h2 := hpos u hu; rw [hS u hu] at h h2; simp only [sub4] at h h2; omega
  have eb : y.b = x.b - v.b ∧ 0 ≤ y.b := by
    have h1 : y.b ≤ x.b - v.b := by
      rcases m.b with h | ⟨u, hu, h⟩
      · omega
      · have := (m'.low u hu).2.1; rw [hS u hu] at this; simp only [sub4] at this; omega
    rcases m'.b with h | ⟨u, hu, h⟩
    · have := m.cap.2.1; omega
    · have := (m.low u hu).2.1; have h2 := hpos u hu; rw [hS u hu] at h h2; simp only [sub4] at h h2; omega
  have ec : y.c = x.c - v.c ∧ 0 ≤ y.c := by
    have h1 : y.c ≤ x.c - v.c := by
      rcases m.c with h | ⟨u, hu, h⟩
      · omega
      · have := (m'.low u hu).2.2.1; rw [hS u hu] at this; simp only [sub4] at this; omega
    rcases m'.c with h | ⟨u, hu, h⟩
    · have := m.cap.2.2.1; omega
    · have := (m.low u hu).2.2.1; have h2 := hpos u hu; rw [hS u hu] at h h2; simp only [sub4] at h h2; omega
  have ed : y.d = x.d - v.d ∧ 0 ≤ y.d := by
    have h1 : y.d ≤ x.d - v.d := by
      rcases m.d with h | ⟨u, hu, h⟩
      · omega
      · have := (m'.low u hu).2.2.2; rw [hS u hu] at this; simp only [sub4] at this; omega
    rcases m'.d with h | ⟨u, hu, h⟩
    · have := m.cap.2.2.2; omega
    · have := (m.low u hu).2.2.2; have h2 := hpos u hu; rw [hS u hu] at h h2; simp only [sub4] at h h2; omega
  refine ⟨?_, ea.2, eb.2, ec.2, ed.2⟩
  obtain ⟨ya, yb, yc, yd⟩ := y
  simp only at ea eb ec ed
  simp only [sub4, V4.mk.injEq]; omega

theorem give_back {whole : V4} {l l' l2 : List St} {fr tt : Int} {v : V4} {r : Int} (hi : Inv whole l) (hi' : Inv whole l') (hs : spanL fr tt v = true) (hv : ∀ u, 0 ≤ u → u < 1099511627776 → val l' u = if fr ≤ u ∧ u < tt then sub4 (val l u) v else val l u)
    (h : GiveRel whole l' fr tt v r l2) : r = 0 ∧ l2 = l := by
  obtain ⟨b1, b2, b3, b4⟩ := spanL_true hs
  obtain ⟨hi2, hg⟩ := give_facts hi' h
  have hadd : ∀ u, fr ≤ u → u < tt → add4 (val l' u) v = val l u := fun u h1 h2 => by
    rw [hv u (by omega) (by omega), if_pos ⟨h1, h2⟩]
    obtain ⟨a, b, c, d⟩ := val l u
    simp only [add4, sub4, V4.mk.injEq]; omega
  rcases hg with ⟨h1, _⟩ | ⟨_, h1, _⟩ | ⟨_, _, h1, h2⟩
  · rw [hs] at h1; cases h1
  · exact absurd (fun u a b => by rw [hadd u a b]; exact fits_iff.1 (hi.free u (by omega) (by omega)).2) h1
  · refine ⟨h1, canon hi2.loose hi.loose hi2.unlike hi.unlike fun u u0 u1 => ?_⟩
    rw [h2 u u0 u1]
    by_cases hu : fr ≤ u ∧ u < tt
    · rw [if_pos hu, hadd u hu.1 hu.2]
    · rw [if_neg hu, hv u u0 u1, if_neg hu]

/-- blocks that are as they were laid -/
def Keeps (L : List (Nat × Obj)) (w : World) : Prop := ∀ p ∈ L, w.heap[p.1]? = some p.2
theorem Keeps.nil (w : World) : Keeps [] w := fun _ h => by simp at h
theorem Keeps.below {L : List (Nat × Obj)} {w w' : World} (h : Keeps L w) (hb : Below w.heap.size w w') : Keeps L w' := fun p hp => blk_below hb (h p hp) (blk_lt (h p hp))
theorem Keeps.mod {L : List (Nat × Obj)} {S : Nat → Prop} {w w' : World} (h : Keeps L w) (hm : Mod S w w') (hS : ∀ p ∈ L, ¬ S p.1) : Keeps L w' := fun p hp => (hm.block p.1 (blk_lt (h p hp)) (hS p hp)).trans (h p hp)
theorem Keeps.drew {L : List (Nat × Obj)} {w : World} (h : Keeps L w) : Keeps L w.drew := h
theorem Keeps.alloc {L : List (Nat × Obj)} {w : World} (h : Keeps L w) (o : Obj) : Keeps ((w.heap.size, o) :: L) (w.alloc o) := fun p hp => by
  rcases List.mem_cons.1 hp with rfl | hp
  · exact blk_new _ _
  · exact blk_old _ (h p hp)
theorem Keeps.lt {L : List (Nat × Obj)} {w : World} (h : Keeps L w) : ∀ p ∈ L, p.1 < w.heap.size := fun p hp => blk_lt (h p hp)
end Go.Proofs.Ytpjajiambbobhaa
