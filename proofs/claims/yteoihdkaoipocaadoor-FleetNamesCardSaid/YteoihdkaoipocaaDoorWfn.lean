/- corveelaw05.FleetNames: any text is a name just where it is told. -/
import Derived.Test.YteoihdkaoipocaaDoorAwf
namespace Go.Proofs.YteoihdkaoipocaaDoor
open Go.RowKit Go.Maps Go.Shelf

set_option maxRecDepth 100000 in
theorem fnames_any (s : ByteArray) (w : World) (hm : Mx w) (hs : s.size ≤ maxLen) : Calls Tryd.prog 3 #[.string s] w fun e w' => e = .returned (.bool true) ∧ Below w.heap.size w w' := by
  have hc1 := awake5 w hm
  obtain ⟨b, hb⟩ : ∃ b, b = isName s := ⟨_, rfl⟩
  have hbb : (b == b) = true := by simp
  have hcn := fun w => name_any s w hs
  have hcr := fun w => rname_any s w hs
  rw [← hb] at hcn hcr
  replace hc1 := Lib.hid hc1; replace hcn := Lib.hid hcn; replace hcr := Lib.hid hcr; replace hb := Lib.hid hb
  go_enter Tryd.func3, Tryd.ntmps3
  go_wp2_with fail
  refine hc1.out.mono ?_
  rintro e w1 ⟨rfl, hb1⟩
  replace hb1 := Lib.hid hb1
  go_wp2_with fail
  refine (hcn.out _).mono ?_
  rintro e w2 ⟨rfl, hb2⟩
  replace hb2 := Lib.hid hb2
  go_wp2_with fail
  refine (hcr.out _).mono ?_
  rintro e w3 ⟨rfl, hb3⟩
  replace hb3 := Lib.hid hb3
  cases b
  all_goals
    go_wp2
    go_ret
    exact ⟨rfl, hb1.out.trans ((hb2.out.trans (hb3.out.mono hb2.out.size)).mono hb1.out.size)⟩
end Go.Proofs.YteoihdkaoipocaaDoor
