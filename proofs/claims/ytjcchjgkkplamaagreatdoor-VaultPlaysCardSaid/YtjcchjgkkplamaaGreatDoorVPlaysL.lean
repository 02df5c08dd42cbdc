/- Proved: the law VaultPlays: for any row of acts the law returns true, and its argument reads behind the call as before: act by act the program keeps and loads snapshots as the document says, and its disk is left in the same state. Condition: the package-level variable errors.errorType holds what the program's own text lays (the card ties it). -/
import Derived.Test.YtjcchjgkkplamaaGreatDoorLawV
import Derived.Test.YtjcchjgkkplamaaGreatDoorLawG
import Derived.Test.YtjcchjgkkplamaaGreatDoorTie
import Derived.Test.YtjcchjgkkplamaaGreatDoorCards
import Derived.SevenTiedAt
set_option linter.unusedVariables false
set_option maxRecDepth 100000
namespace Go.Proofs.YtjcchjgkkplamaaGreatDoor
open Go.ChangeShapes Go.WideShapes Go.RowKit Go.SW
theorem vaultPlays_params : Tryz.f4.params = #[40] := by kernel_rfl
theorem vaultPlays_results : Tryz.f4.resultTypes = #[4] := by kernel_rfl
theorem vaultPlays_lifted (os : Os) (started : os.Started) (H : Type) (enc : TypeId × Value → H) :
    ReturnsInHanded {} Tryz.checked os 4 .any (fun w args => (Rows.vaultPlaysSpec.pre enc Tryz.prog Tryz.f4 [] false w args ∧ laidMetH Tryz.prog laidL w) ∧ sizedMet enc Tryz.prog Tryz.f4 (OpenSpec.ofChange Rows.vaultPlaysSpec) false w args)
      (Rows.vaultPlaysSpec.post enc Tryz.prog Tryz.f4 false true false false) := by
  refine returnsInHanded_of_change_and (C := Tryz.checked) (X := fun w _ => laidMetH Tryz.prog laidL w) (fun _ _ _ hh h => h.of_heap hh) ownP started (by kernel_rfl) Tryz.func4
    (ChangeSpec.witness_at (enc := enc) (C := Tryz.checked) (os := os) (X := fun w _ => laidMetH Tryz.prog laidL w) false (laidWorld os) #[.slice none 0 0] 8 rfl (by kernel_rfl) (by kernel_rfl) (by kernel_rfl) (by kernel_rfl) (by kernel_rfl) (laidWorld_met os _)) ?_
  intro W base args ds gs before hval0 hW _ hz hL _
  have hval : ∀ (j : Nat) t v, Tryz.f4.params[j]? = some t → args[j]? = some v → Value.okWide Tryz.prog W .any base t v := hval0
  have hW' := hW
  obtain ⟨p, q, hA0, hV0, rfl, hfz, hnd⟩ := hW
  have hA : DataW.TrodAll enc Tryz.prog W 0 (fun _ => true) true Tryz.f4.params.toList args.toList ds p := hA0
  have hV : DataW.TrodVars enc Tryz.prog W (fun _ => true) [] gs q := hV0
  have hz' : (DataW.weightsEach Tryz.prog (Tryz.f4.params.toList ++ []) (ds ++ gs)).all (· ≤ reachBytes) = true := hz
  rw [vaultPlays_params] at hA hval hz'
  obtain ⟨v0, d0, rfl, rfl, h0⟩ := trodAll_one hA
  obtain ⟨rfl, rfl⟩ : gs = [] ∧ q = [] := by
    cases gs with
    | nil => exact ⟨rfl, hV⟩
    | cons g r => exact absurd hV (by intro h; cases h)
  have hG := handle_of_laid hL
  simp only [List.append_nil, DataW.weightsEach, List.all_append, List.all_nil, Bool.and_eq_true, Bool.and_true] at hz'
  have hr : reachBytes ≤ 140737488355328 := by decide
  obtain ⟨ac, kP, kok⟩ := open_acts20V (hval 0 _ _ rfl rfl) h0 hz'
  refine (VaultPlays_ct v0 ac W hG kP kok).mono ?_
  rintro v W' ⟨rfl, hF⟩
  exact post_true rfl vaultPlays_results (by kernel_rfl) hW' rfl hF.below
theorem vaultPlays_said : Rows.VaultPlaysSaid :=
  OpenClaim.holds_of_wide 4 Tryz.f4 rfl rfl rfl rfl rfl rfl rfl ⟨rfl, rfl, rfl, rfl, rfl⟩ rfl rfl rfl rfl rfl (by kernel_rfl) Tryz.func4 (by kernel_rfl)
    (of_decide_eq_true (by kernel_rfl)) (by unfold Func.isWrapper; rw [if_neg (of_decide_eq_false (by kernel_rfl))]; exact ⟨rfl, rfl⟩)
    (fun os started H enc _ => vaultPlays_lifted os started H enc)
theorem vaultPlays_card : Rows.VaultPlaysCardSaid :=
  Claim7.holds_tied_plain_at .later [] [.handle] true (true, "469af8f4676aa80cd44686b914779d45ed595a2f8dd8246f5def7581e89b73ed") true
    vaultPlays_said (fun _ h => by cases h) (by kernel_rfl) (fun _ h => by cases h) vaultPlays_row_tie rfl ⟨rfl, rfl⟩ (by kernel_rfl) rfl
    (fun f fn hf hfn => by
      obtain rfl : f = 4 := Option.some.inj ((show Tryz.prog.funcNamed "muntin/muntinlaw20.VaultPlays" = some 4 by kernel_rfl).symm.trans hf) |>.symm
      obtain rfl : fn = Tryz.f4 := (Option.some.inj (Tryz.func4.symm.trans hfn)).symm
      exact ⟨by kernel_rfl, fun j t ht => by
        rw [vaultPlays_params] at ht
        match j, ht with
        | 0, ht => cases ht; exact (show Tryz.prog.wantsStandIn 40 = false by kernel_rfl)
        | _ + 1, ht => simp at ht⟩)
    (by kernel_rfl)
#print axioms vaultPlays_card
end Go.Proofs.YtjcchjgkkplamaaGreatDoor
