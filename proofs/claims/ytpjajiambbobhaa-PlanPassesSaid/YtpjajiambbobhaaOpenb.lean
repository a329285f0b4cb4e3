/- An act that comes in by value, opened together with the bounds of its numbers; a number that comes in. Plain theorems: no condition. -/
import Derived.Test.YtpjajiambbobhaaOpen
namespace Go.Proofs.Ytpjajiambbobhaa
open Go.ChangeShapes Go.WideShapes Go.ChangeAt Go.RowKit

/-- a machine's number -/
def Num (n : Int) : Prop := -9223372036854775808 ≤ n ∧ n ≤ 9223372036854775807

section
variable {H : Type} {enc : TypeId × Value → H} {w : World} {spare : Nat → Bool} {held : Bool} {base b0 : Nat} {r : Reach} {v : Value} {d : DataW H} {p : List MemPlace}
theorem acts_num {fuel : Nat} {cs : List Value} {x : DataW H × List MemPlace} (h : DataW.trod enc Try.prog w base spare held fuel 26 cs = some x) : ∀ n, cs[1]? = some (.int .i64 n) ∨ cs[2]? = some (.int .i64 n) → Num n := by
  obtain ⟨y0, y1, y2, y3, m, _, hl, h0, h1, h2, h3⟩ := Go.Joins.trod_struct4 Try.underlying26 h
  rw [Try.c26] at hl
  obtain ⟨c0, c1, c2, c3, c4, c5, c6, rfl⟩ := list7 hl
  simp [Try.c3] at h0 h1 h2
  obtain ⟨n1, e1, _, w1⟩ := DataW.trod_int Try.underlying3 h1
  obtain ⟨n2, e2, _, w2⟩ := DataW.trod_int Try.underlying3 h2
  simp at e1 e2
  subst e1; subst e2
  intro n hn
  rcases hn with hn | hn
  · simp at hn; rw [← hn]; exact bounds_i64 w1
  · simp at hn; rw [← hn]; exact bounds_i64 w2

set_option maxRecDepth 100000 in
theorem open_act_num (hv : Value.okWide Try.prog w r b0 26 v) (h : DataW.Trod enc Try.prog w base spare held 26 v d p) : ∃ a : Act6, v = a.val ∧ Num a.fr ∧ Num a.tt := by
  obtain ⟨a, rfl⟩ := open_act hv h
  obtain ⟨fuel, hf⟩ := h
  exact ⟨a, rfl, acts_num hf a.fr (.inl rfl), acts_num hf a.tt (.inr rfl)⟩
end
end Go.Proofs.Ytpjajiambbobhaa
