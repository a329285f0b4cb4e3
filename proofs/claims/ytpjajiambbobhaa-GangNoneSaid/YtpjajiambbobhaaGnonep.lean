/- A pool of two nodes, and what isn't taken there: the plain law. Plain theorems: no condition. -/
import Derived.Test.YtpjajiambbobhaaGnil
import Derived.Test.YtpjajiambbobhaaGawake
namespace Go.Proofs.Ytpjajiambbobhaa

def ones4 : V4 := ⟨1, 1, 1, 1⟩
def twos4 : V4 := ⟨2, 2, 2, 2⟩
theorem two {i : Nat} (h : i < 2) : i = 0 ∨ i = 1 := by omega

/-- as it was made -/
structure Still (ps : List Nd) : Prop where
  len : ps.length = 2
  whole : ∀ i, i < 2 → (nd ps i).whole = vv [ones4, twos4] i
  steps : ∀ i, i < 2 → (nd ps i).l = [⟨0, vv [ones4, twos4] i⟩]
theorem Still.kin {w : World} {ps ps' : List Nd} (h : Still ps) (hk : Kin w ps ps') (hs : SameL ps ps') : Still ps' :=
  ⟨hk.len.trans h.len, fun i hi => by rw [hk.whole i (by rw [h.len]; exact hi), h.whole i hi], fun i hi => by rw [hs i (by rw [h.len]; exact hi), h.steps i hi]⟩
theorem Still.val {ps : List Nd} (h : Still ps) {u : Int} (hu : 0 ≤ u) {i : Nat} (hi : i < 2) : val (nd ps i).l u = vv [ones4, twos4] i := by
  rw [h.steps i hi]; simp [Ytpjajiambbobhaa.val, valR, hu]
theorem Still.nogang {ps ps' : List Nd} {zs : List Int} {fr tt r : Int} {v : V4} (h : Still ps) (hz : ¬ Gang 2 zs) (ht : TookG ps zs fr tt v r ps') : r = 1 ∧ SameL ps ps' := by
  unfold TookG at ht
  rw [h.len] at ht
  rcases ht with ⟨_, h1, h2⟩ | ⟨h1, _⟩ | ⟨h1, _⟩
  · exact ⟨h1, h2⟩
  · exact absurd h1 hz
  · exact absurd h1 hz
theorem gang_two : Gang 2 [0, 1] := by
  refine ⟨by decide, fun i hi => ?_, fun i hi => ?_, fun i hi => ?_⟩
  · rcases two hi with rfl | rfl <;> decide
  · rcases two hi with rfl | rfl <;> decide
  · have : i + 1 < 2 := hi
    have e : i = 0 := by omega
    subst e; decide
theorem Still.busy {ps ps' : List Nd} {r : Int} (h : Still ps) (ht : TookG ps [0, 1] 0 5 ⟨2, 0, 0, 0⟩ r ps') : r = 60 ∧ SameL ps ps' := by
  have hl := h.len
  rcases ht with ⟨h1, _⟩ | ⟨_, _, _, h1, h2⟩ | ⟨_, _, h1, _⟩
  · exact absurd ⟨by rw [hl]; exact gang_two, by decide⟩ h1
  · exact ⟨h1, h2⟩
  · have := h1 0 (by omega) (by decide) 0 (by omega) (by omega)
    rw [h.val (by omega) (by omega)] at this
    exact absurd this.1 (by decide)
theorem Still.idle {ps ps' : List Nd} {r : Int} (h : Still ps) (ht : GaveG ps [0, 1] 0 5 ⟨1, 0, 0, 0⟩ r ps') : r = 61 ∧ SameL ps ps' := by
  have hl := h.len
  rcases ht with ⟨h1, _⟩ | ⟨_, _, _, h1, h2⟩ | ⟨_, _, h1, _⟩
  · exact absurd ⟨by rw [hl]; exact gang_two, by decide⟩ h1
  · exact ⟨h1, h2⟩
  · have := h1 0 (by omega) (by decide) 0 (by omega) (by omega)
    rw [h.val (by omega) (by omega), h.whole 0 (by omega)] at this
    exact absurd this.1 (by decide)
theorem Still.free {ps : List Nd} (h : Still ps) : freeG ps 0 0 5 = ones4 ∧ freeG ps 1 0 5 = twos4 := by
  unfold freeG
  rw [h.len, if_pos (by decide), if_pos (by decide)]
  rw [show (0 : Int).toNat = 0 from rfl, show (1 : Int).toNat = 1 from rfl, h.whole 0 (by omega), h.steps 0 (by omega), h.whole 1 (by omega), h.steps 1 (by omega)]
  exact ⟨by decide, by decide⟩
theorem no_back : ¬ Gang 2 [1, 0] := fun h => absurd (h.rise 0 (by decide)) (by decide)
theorem no_same : ¬ Gang 2 [0, 0] := fun h => absurd (h.rise 0 (by decide)) (by decide)
theorem no_high : ¬ Gang 2 [0, 2] := fun h => absurd (h.high 1 (by decide)) (by decide)
theorem no_one : ¬ Gang 2 [] := fun h => absurd h.pos (by decide)
end Go.Proofs.Ytpjajiambbobhaa
