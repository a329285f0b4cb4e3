/- slices.Clone over steps, (*Profile).Steps, profile.New, walked. -/
import Derived.Test.YtpjajiambbobhaaTake
import Derived.Lib.SliceRun
namespace Go.Proofs.Ytpjajiambbobhaa
open Go.RowKit

def ClonePost (l : List St) (w : World) (e : Ending) (w' : World) : Prop :=
  ∃ sb cap, e = .returned (.slice (some ⟨sb, 0, none⟩) l.length cap) ∧ Row w' sb cap l ∧ w.heap.size ≤ sb ∧ Below w.heap.size w w'

theorem owns_none (w : World) : (w.alloc (.cells #[] 43)).ownsRow w.heap.size 43 5 (.slice (some ⟨w.heap.size, 0, none⟩) 0 0) 0 [] :=
  ⟨rfl, .inr ⟨w.heap.size, 0, #[], rfl, Nat.le_refl _, heap_alloc_new w _, Nat.le_refl _, by decide, rfl, rfl⟩⟩

set_option maxRecDepth 100000 in
theorem clone_any (sb cap : Nat) (l : List St) (w : World) (hr : Row w sb cap l) (hlen : l.length ≤ 2199023255552) (h0 : 0 < l.length) :
    Calls Try.prog 58 #[.slice (some ⟨sb, 0, none⟩) l.length cap] w (ClonePost l w) := by
  obtain ⟨i0, hi0, hz0, hz1, hz2⟩ := info_parts info43
  have lsb := hr.lt
  have q1 : Hid (∀ j u, (flat l)[j]? = some u → (w.alloc (.cells #[] 43)).cell? ((⟨sb, 0, none⟩ : Addr).add j) = some u) := by
    intro j u hu
    have := hr.front l.length (Nat.le_refl _) j u (by rw [List.take_of_length_le (Nat.le_refl _)]; exact hu)
    have e : ((⟨sb, 0, none⟩ : Addr).add j).block = sb := by unfold Addr.add; split <;> rfl
    refine (World.cell?_of_block (w := w) ?_).trans this
    rw [e]; exact Below.heap_alloc w _ sb lsb
  have q2 : Hid ((flat l).length = l.length * 5) := flat_length l
  have q3 : Hid (0 + l.length ≤ maxLen) := by show 0 + l.length ≤ maxLen; simp only [maxLen]; omega
  have q4 : Hid ((0 + l.length) * 40 ≤ 140737488355328) := by show _ ≤ _; omega
  replace hr := Lib.hid hr
  have hnil := fun w => Lib.run_eql_slice_nil (P := Try.prog) w 30 43 (some ⟨sb, 0, none⟩) l.length cap 0 0 Try.underlying30
  go_enter Try.func58, Try.ntmps58
  go_wp2_with (at_builtin; refine wpList_append_own _ rfl _ _ 30 rfl w.heap.size 43 i0 _ 5 40 Try.underlying30 hi0 hz0 hz1 hz2 rfl (by decide) _ 0 [] rfl (owns_none w) ⟨sb, 0, none⟩ l.length cap (flat l) rfl q2.out q1.out (flat_one l) q3.out q4.out (by simp) ?_; intro v1 w1 hown hgrow _; obtain ⟨g, cap1, rfl⟩ := Joins.ownsRow_form hown (by omega))
  go_ret
  obtain ⟨hrow, hg⟩ := Row.of_owns (l := l) hown (by omega) rfl
  refine ⟨g, cap1, by simp, hrow, hg, ?_⟩
  exact ((Below.refl _ _).alloc (Nat.le_refl _) _).grown hgrow (by simp) (by intro k hk; cases hk; exact Nat.le_refl _)

def NewPost (whole : V4) (w : World) (e : Ending) (w' : World) : Prop :=
  (whole.right = false ∧ e = .returned (.pointer none) ∧ Below w.heap.size w w') ∨
    (whole.right = true ∧ ∃ pb sb, e = .returned (.pointer (some ⟨pb, 0, none⟩)) ∧ Prof w' pb sb 1 whole [⟨0, whole⟩] ∧ w.heap.size ≤ pb ∧ w.heap.size ≤ sb ∧ Below w.heap.size w w')

theorem new_any (whole : V4) (w : World) : Calls Try.prog 31 #[whole.val] w (NewPost whole w) := by
  go_enter Try.func31, Try.ntmps31
  go_wp2_with fail
  refine (right_any whole _).mono ?_
  rintro e w2 ⟨rfl, hb2⟩
  have hB2 : Below w.heap.size w w2 := ((Below.refl _ _).alloc (Nat.le_refl _) _).trans (hb2.mono (by simp))
  have g2 := blk_below hb2 (blk_new _ _) (by simp)
  have x0 := blk_cell g2 0; have x1 := blk_cell g2 1; have x2 := blk_cell g2 2; have x3 := blk_cell g2 3
  simp at x0 x1 x2 x3
  have s2 := hB2.size
  replace hB2 := Lib.hid hB2; replace hb2 := Lib.hid hb2; replace g2 := Lib.hid g2
  cases hw : whole.right
  · replace hw := Lib.hid hw
    go_wp2
    go_ret
    exact .inl ⟨hw.out, rfl, hB2.out⟩
  · replace hw := Lib.hid hw
    go_wp2
    go_ret
    refine .inr ⟨hw.out, w2.heap.size + 1, w2.heap.size, rfl, ⟨?_, ⟨by simp, by decide, (⟨0, whole⟩ : St).cells.toArray, ?_, rfl, rfl⟩, by omega⟩, by omega, by omega, ?_⟩
    · exact blk_at _ _ (by simp)
    · exact blk_old _ (blk_new _ _)
    · exact (hB2.out.alloc s2 _).alloc (by simp; omega) _

theorem steps_any (pb sb cap : Nat) (whole : V4) (l : List St) (w : World) (hp : Prof w pb sb cap whole l) (hl : Loose l) :
    Calls Try.prog 21 #[.pointer (some ⟨pb, 0, none⟩)] w (ClonePost l w) := by
  have c4 := blk_cell hp.head 4
  simp at c4
  have hlen := hl.len
  replace hp := Lib.hid hp
  replace hl := Lib.hid hl
  go_enter Try.func21, Try.ntmps21
  go_wp2_with fail
  refine (clone_any sb cap l w hp.out.row (by omega) hl.out.pos).mono ?_
  rintro e w2 ⟨g, cap2, rfl, h1, h2, h3⟩
  replace h1 := Lib.hid h1; replace h3 := Lib.hid h3
  go_wp2
  go_ret
  exact ⟨g, cap2, rfl, h1.out, h2, h3.out⟩

theorem steps_none (w : World) : Calls Try.prog 21 #[.pointer none] w fun e w' => e = .returned (.slice none 0 0) ∧ w' = w := by
  go_enter Try.func21, Try.ntmps21
  go_wp2
  go_ret
  exact ⟨rfl, rfl⟩
end Go.Proofs.Ytpjajiambbobhaa
