/- Giving back makes nothing later: for every input the law returns true, and each argument reads behind the call as it read before. No condition. -/
import Derived.Test.YtpjajiambbobhaaGivesw
import Derived.Test.YtpjajiambbobhaaOpenb
import Derived.Test.YtpjajiambbobhaaRows
namespace Go.Proofs.Ytpjajiambbobhaa
open Go.ChangeShapes Go.WideShapes Go.ChangeAt Go.RowKit

set_option maxRecDepth 100000 in
theorem gives_lifted (os : Os) (started : os.Started) (H : Type) (enc : TypeId × Value → H) :
    ReturnsInHanded {} Try.checked os 5 .any (Rows.profileGivesSpec.pre6 enc Try.prog Try.f5 Rows.profileGivesRow.domain false) (Rows.profileGivesSpec.post enc Try.prog Try.f5 false true false false) := by
  refine returnsInHanded_of_change (C := Try.checked) Try.own started (by kernel_rfl) Try.func5
    (ChangeSpec.witness6 (enc := enc) (C := Try.checked) false ⟨#[], #[V4.zero.val, .slice none 0 0, Act6.zero.val], []⟩ 8 (by kernel_rfl) (by kernel_rfl) (by kernel_rfl) (by kernel_rfl)) ?_
  intro W base args ds gs before hval0 hW hcnd _
  have hval : ∀ (j : Nat) t v, Try.f5.params[j]? = some t → args[j]? = some v → Value.okWide Try.prog W .any base t v := hval0
  have hW' := hW
  obtain ⟨p, q, hA0, hV, rfl, hfz, hnd⟩ := hW
  have hA : DataW.TrodAll enc Try.prog W 0 (fun _ => true) true Try.f5.params.toList args.toList ds p := hA0
  rw [Try.params5] at hA hval
  obtain ⟨v0, v1, v2, d0, d1, d2, p0, p1, p2, rfl, rfl, rfl, h0, h1, h2⟩ := trodAll_three hA
  obtain ⟨rfl, rfl⟩ := trodVars_none hV
  obtain ⟨whole, rfl⟩ := open_vec (hval 0 23 v0 rfl rfl) h0
  obtain ⟨acts, ha⟩ := open_acts (hval 1 24 v1 rfl rfl) h1
  obtain ⟨a, rfl, hfr, _⟩ := open_act_num (hval 2 26 v2 rfl rfl) h2
  clear hA0 hval0
  refine (gives_any whole v1 acts a W ha hfr.2).mono fun e W' ⟨he, hw⟩ => ?_
  subst he
  refine ⟨_, rfl, post_of_below hW' rfl (fun _ _ _ => ?_) rfl rfl hw ?_⟩
  · have hrt : Try.f5.resultTypes = #[4] := by kernel_rfl
    rw [hrt]
    exact trodAll_mk1 ⟨1, by simp [DataW.trod, Value.cells, Try.underlying4]⟩
  · rw [Try.params5]
    intro t ht
    simp at ht
    rcases ht with rfl | rfl | rfl <;> exact ⟨by kernel_rfl, of_decide_eq_true (by kernel_rfl)⟩

theorem gives_holds : Rows.ProfileGivesSaid :=
  OpenClaim.holds_of_wide 5 Try.f5 rfl rfl rfl rfl rfl rfl rfl ⟨rfl, rfl, rfl, rfl, rfl⟩ rfl rfl rfl rfl rfl (by kernel_rfl) Try.func5 (by kernel_rfl)
    (of_decide_eq_true (by kernel_rfl)) (by unfold Func.isWrapper; rw [if_neg (by decide +kernel)]; exact ⟨rfl, rfl⟩)
    (fun os started H enc _ => gives_lifted os started H enc)
end Go.Proofs.Ytpjajiambbobhaa
