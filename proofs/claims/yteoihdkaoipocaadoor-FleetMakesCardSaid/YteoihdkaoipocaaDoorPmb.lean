/- nodes that are written line by line are the fleet's, one too many is refused: for every input the law returns true, and each argument reads behind the call as it read before. The listed variables are laid and tied. No further condition. -/
import Derived.Test.YteoihdkaoipocaaDoorWmk
import Derived.Test.YteoihdkaoipocaaDoorRwb
namespace Go.Proofs.YteoihdkaoipocaaDoor
open Go.ChangeShapes Go.WideShapes Go.ChangeAt Go.RowKit Go.ChangeMaps

set_option maxRecDepth 100000 in
theorem fleetMakes_lifted (os : Os) (started : os.Started) (H : Type) (enc : TypeId × Value → H) :
    ReturnsInHanded {} Tryd.checked os 9 .any (fun w args => (Rows.fleetMakesSpec.pre enc Tryd.prog Tryd.f9 Rows.fleetMakesRow.domain false w args ∧ laidMetH Tryd.prog Rows.fleetMakesRow.laid w) ∧ sizedMet enc Tryd.prog Tryd.f9 (OpenSpec.ofChange Rows.fleetMakesSpec) false w args)
      (Rows.fleetMakesSpec.post enc Tryd.prog Tryd.f9 false true false false) := by
  refine returns_laid (C := Tryd.checked) (X := fun w _ => laidMetH Tryd.prog Rows.fleetMakesRow.laid w) (fun _ _ _ hh h => h.of_heap hh) own started (by kernel_rfl) Tryd.func9
    (ChangeSpec.witness_shaped (enc := enc) (C := Tryd.checked) (os := os) (X := fun w _ => laidMetH Tryd.prog Rows.fleetMakesRow.laid w) false (World.laidAll Tryd.prog os Rows.fleetMakesRow.laid) #[.slice none 0 0] 8 (World.laidAll_os _ _ _)
      (World.shaped_of_ZipB (by kernel_rfl) (by kernel_rfl)) (by kernel_rfl) (by kernel_rfl) (by kernel_rfl)
      (by rw [MakeChecks.laidMetH_plain _ _ _ (by kernel_rfl)]; exact laidMet_laidAll _ (by kernel_rfl) (by kernel_rfl))) ?_
  intro W base args ds gs before hval0 hW hc hL hsh
  have hval : ∀ (j : Nat) t v, Tryd.f9.params[j]? = some t → args[j]? = some v → Value.okWide Tryd.prog W .any base t v := hval0
  have hW' := hW
  obtain ⟨p, q, hA0, hV, rfl, _, _⟩ := hW
  have hA : DataW.TrodAll enc Tryd.prog W 0 (fun _ => true) true Tryd.f9.params.toList args.toList ds p := hA0
  rw [Tryd.params9] at hA hval
  obtain ⟨v0, d0, rfl, rfl, h0⟩ := trodAll_one hA
  obtain ⟨rfl, rfl⟩ := trodVars_none hV
  obtain ⟨ao0, n0, c0, xs0, rfl, hx0⟩ := open_nodes (hval 0 42 v0 rfl rfl) h0
  clear hA0 hval0
  refine (fmakes_any ao0 n0 c0 xs0 W hx0 (mx_shaped hsh)).mono fun e W' ⟨he, hw⟩ => ?_
  subst he
  refine ⟨_, rfl, post_of_below hW' rfl (fun _ _ _ => ?_) rfl rfl hw ?_⟩
  · have hrt : Tryd.f9.resultTypes = #[4] := by kernel_rfl
    rw [hrt]
    exact trodAll_mk1 ⟨1, by simp [DataW.trod, Value.cells, Tryd.underlying4]⟩
  · rw [Tryd.params9]
    intro t ht
    have hm : t ∈ [42] := by simpa using ht
    have hall : ([42].all fun u => Tryd.prog.readableRec u && decide (u < Tryd.prog.types.size)) = true := by kernel_rfl
    have := List.all_eq_true.1 hall t hm
    rw [Bool.and_eq_true] at this
    exact ⟨this.1, of_decide_eq_true this.2⟩
theorem fleetMakes_row : Rows.FleetMakesSaid :=
  OpenClaim.holds_of_wide 9 Tryd.f9 rfl rfl rfl rfl rfl rfl rfl ⟨rfl, rfl, rfl, rfl, rfl⟩ rfl rfl rfl rfl rfl (by kernel_rfl) Tryd.func9 (by kernel_rfl)
    (of_decide_eq_true (by kernel_rfl)) (by unfold Func.isWrapper; first | (rw [if_pos (by decide +kernel)]; kernel_rfl) | (rw [if_neg (by decide +kernel)]; exact ⟨rfl, rfl⟩))
    (fun os started H enc _ => fleetMakes_lifted os started H enc)
theorem fleetMakes_holds : Rows.FleetMakesCardSaid :=
  Claim7.holds_tied_plain_at .later [] [.data, .pinned] true (true, "d7ca3db8da485ca0b11e68421f68137e81c97920c528271bb1d28dc3225d4cd7") false fleetMakes_row (fun _ h => by cases h) (by kernel_rfl) (fun _ h => by cases h) fleetMakes_row_tie rfl ⟨rfl, rfl⟩ (by kernel_rfl) rfl
    (fun f fn hf hfn => by
      obtain rfl : f = 9 := Option.some.inj ((show Tryd.prog.funcNamed "corvee/corveelaw05.FleetMakes" = some 9 by kernel_rfl).symm.trans hf) |>.symm
      obtain rfl : fn = Tryd.f9 := (Option.some.inj (Tryd.func9.symm.trans hfn)).symm
      exact ⟨by kernel_rfl, fun j t ht => by
        rw [Tryd.params9] at ht
        have hm : t ∈ [42] := by simpa using Array.mem_of_getElem? ht
        have hall : ([42].all fun u => !Tryd.prog.wantsStandIn u) = true := by kernel_rfl
        exact (show Tryd.prog.wantsStandIn t = false by simpa using List.all_eq_true.1 hall t hm)⟩)
    (by kernel_rfl)
end Go.Proofs.YteoihdkaoipocaaDoor
