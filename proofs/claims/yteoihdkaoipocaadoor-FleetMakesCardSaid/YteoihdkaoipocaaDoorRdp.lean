/- fleet.Read: the fleet of a text: parts. -/
import Derived.Test.YteoihdkaoipocaaDoorPut
import Derived.Test.YteoihdkaoipocaaDoorLin
namespace Go.Proofs.YteoihdkaoipocaaDoor
open Go.RowKit Go.Maps

set_option maxRecDepth 100000 in
theorem lines_any (s : ByteArray) (w : World) : Calls Tryd.prog 79 #[.string s] w fun e w' => e = .returned (.func (.func 122) #[] #[.pointer (some ⟨w.heap.size, 0, none⟩)]) ∧ w' = w.alloc (.cells #[.string s] 9 (0, 0)) := by
  go_enter Tryd.func79, Tryd.ntmps79
  go_wp2
  go_ret
  exact ⟨rfl, rfl⟩

/-- what is read of a text's lines: the nodes put so far; the first fault's error and line -/
def readTo : List Ndv → List (Int × ByteArray) → List Ndv × Int × Int
  | xs, [] => (xs, 0, 0)
  | xs, (i, l) :: ls =>
    match nodeOf l with
    | none => (xs, 50, i)
    | some v => if putE (xs.map Ndv.name) xs.length v.name v.parts = 0 then readTo (xs ++ [v]) ls else (xs, putE (xs.map Ndv.name) xs.length v.name v.parts, i)
/-- what fleet.Read answers: the nodes, the error, the line -/
def readOf (s : ByteArray) : List Ndv × Int × Int := if 4096 < s.size then ([], 2, 0) else readTo [] (linesOf s)
/-- one line more -/
theorem readTo_app (xs : List Ndv) (l m : List (Int × ByteArray)) (h : (readTo xs l).2.1 = 0) : readTo xs (l ++ m) = readTo (readTo xs l).1 m := by
  induction l generalizing xs with
  | nil => rfl
  | cons x l ih =>
    obtain ⟨i, b⟩ := x
    show readTo xs ((i, b) :: (l ++ m)) = _
    simp only [readTo] at h ⊢
    cases hn : nodeOf b with
    | none => rw [hn] at h; simp at h
    | some v =>
      rw [hn] at h
      simp only at h ⊢
      by_cases c : putE (xs.map Ndv.name) xs.length v.name v.parts = 0
      · rw [if_pos c] at h ⊢
        rw [if_pos c]
        exact ih _ h
      · rw [if_neg c] at h
        exact absurd h c
end Go.Proofs.YteoihdkaoipocaaDoor
