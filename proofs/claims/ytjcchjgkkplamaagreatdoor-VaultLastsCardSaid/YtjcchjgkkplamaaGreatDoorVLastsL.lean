/- Proved: the law VaultLasts: for every two snapshots, part and kept numbers the law returns true, and its arguments read behind the call as before: what was saved is loaded with the power gone behind it, and of a Save that was cut off the older one or that. Condition: the package-level variable errors.errorType holds what the program's own text lays (the card ties it). -/
import Derived.Test.YtjcchjgkkplamaaGreatDoorVLasts
import Derived.Test.YtjcchjgkkplamaaGreatDoorLawN
import Derived.Test.YtjcchjgkkplamaaGreatDoorLawG
import Derived.Test.YtjcchjgkkplamaaGreatDoorTie
import Derived.Test.YtjcchjgkkplamaaGreatDoorCards
import Derived.SevenTiedAt
set_option linter.unusedVariables false
set_option maxRecDepth 100000
namespace Go.Proofs.YtjcchjgkkplamaaGreatDoor
open Go.ChangeShapes Go.WideShapes Go.RowKit Go.SW
theorem vaultLasts_params : Tryz.f3.params = #[24, 24, 3, 25] := by kernel_rfl
theorem vaultLasts_results : Tryz.f3.resultTypes = #[4] := by kernel_rfl
theorem vaultLasts_lifted (os : Os) (started : os.Started) (H : Type) (enc : TypeId × Value → H) :
    ReturnsInHanded {} Tryz.checked os 3 .any (fun w args => (Rows.vaultLastsSpec.pre enc Tryz.prog Tryz.f3 [] false w args ∧ laidMetH Tryz.prog laidL w) ∧ sizedMet enc Tryz.prog Tryz.f3 (OpenSpec.ofChange Rows.vaultLastsSpec) false w args)
      (Rows.vaultLastsSpec.post enc Tryz.prog Tryz.f3 false true false false) := by
  refine returnsInHanded_of_change_and (C := Tryz.checked) (X := fun w _ => laidMetH Tryz.prog laidL w) (fun _ _ _ hh h => h.of_heap hh) ownP started (by kernel_rfl) Tryz.func3
    (ChangeSpec.witness_at (enc := enc) (C := Tryz.checked) (os := os) (X := fun w _ => laidMetH Tryz.prog laidL w) false (laidWorld os) #[.agg #[.int .i64 0, .int .i64 0, .slice none 0 0, .slice none 0 0], .agg #[.int .i64 0, .int .i64 0, .slice none 0 0, .slice none 0 0], .int .i64 0, .slice none 0 0] 8 rfl (by kernel_rfl) (by kernel_rfl) (by kernel_rfl) (by kernel_rfl) (by kernel_rfl) (laidWorld_met os _)) ?_
  intro W base args ds gs before hval0 hW _ hz hL _
  have hval : ∀ (j : Nat) t v, Tryz.f3.params[j]? = some t → args[j]? = some v → Value.okWide Tryz.prog W .any base t v := hval0
  have hW' := hW
  obtain ⟨p, q, hA0, hV0, rfl, hfz, hnd⟩ := hW
  have hA : DataW.TrodAll enc Tryz.prog W 0 (fun _ => true) true Tryz.f3.params.toList args.toList ds p := hA0
  have hV : DataW.TrodVars enc Tryz.prog W (fun _ => true) [] gs q := hV0
  have hz' : (DataW.weightsEach Tryz.prog (Tryz.f3.params.toList ++ []) (ds ++ gs)).all (· ≤ reachBytes) = true := hz
  rw [vaultLasts_params] at hA hval hz'
  obtain ⟨v0, v1, v2, v3, d0, d1, d2, d3, p0, p1, p2, p3, rfl, rfl, rfl, h0, h1, h2, h3⟩ := trodAll_four hA
  obtain ⟨rfl, rfl⟩ : gs = [] ∧ q = [] := by
    cases gs with
    | nil => exact ⟨rfl, hV⟩
    | cons g r => exact absurd hV (by intro h; cases h)
  have hG := handle_of_laid hL
  simp only [List.append_nil, DataW.weightsEach, List.all_append, List.all_nil, Bool.and_eq_true, Bool.and_true] at hz'
  have hr : reachBytes ≤ 140737488355328 := by decide
  obtain ⟨i, t, va, vb, cf, dt, rfl, hi, ht, hc, hd, hs⟩ := open_snapV (hval 0 _ _ rfl rfl) h0
  obtain ⟨i2, t2, va2, vb2, cf2, dt2, rfl, hi2, ht2, hc2, hd2, hs2⟩ := open_snapV (hval 1 _ _ rfl rfl) h1
  obtain ⟨pq, rfl, _, _⟩ := open_intV (hval 2 _ _ rfl rfl) h2
  obtain ⟨ks, kk⟩ := open_numsV (hval 3 _ _ rfl rfl) h3
  have l1 := (hs hz'.1).2
  have l2 := (hs2 hz'.2.1).2
  refine (VaultLasts_ct i t va vb cf dt i2 t2 va2 vb2 cf2 dt2 pq v3 ks W hG hc hd hc2 hd2 kk hi ht (Nat.le_trans l1 hr) hi2 ht2 (Nat.le_trans l2 hr)).mono ?_
  rintro v W' ⟨rfl, hF⟩
  exact post_true rfl vaultLasts_results (by kernel_rfl) hW' rfl hF.below
theorem vaultLasts_said : Rows.VaultLastsSaid :=
  OpenClaim.holds_of_wide 3 Tryz.f3 rfl rfl rfl rfl rfl rfl rfl ⟨rfl, rfl, rfl, rfl, rfl⟩ rfl rfl rfl rfl rfl (by kernel_rfl) Tryz.func3 (by kernel_rfl)
    (of_decide_eq_true (by kernel_rfl)) (by unfold Func.isWrapper; rw [if_neg (of_decide_eq_false (by kernel_rfl))]; exact ⟨rfl, rfl⟩)
    (fun os started H enc _ => vaultLasts_lifted os started H enc)
theorem vaultLasts_card : Rows.VaultLastsCardSaid :=
  Claim7.holds_tied_plain_at .later [] [.handle] true (true, "469af8f4676aa80cd44686b914779d45ed595a2f8dd8246f5def7581e89b73ed") true
    vaultLasts_said (fun _ h => by cases h) (by kernel_rfl) (fun _ h => by cases h) vaultLasts_row_tie rfl ⟨rfl, rfl⟩ (by kernel_rfl) rfl
    (fun f fn hf hfn => by
      obtain rfl : f = 3 := Option.some.inj ((show Tryz.prog.funcNamed "muntin/muntinlaw20.VaultLasts" = some 3 by kernel_rfl).symm.trans hf) |>.symm
      obtain rfl : fn = Tryz.f3 := (Option.some.inj (Tryz.func3.symm.trans hfn)).symm
      exact ⟨by kernel_rfl, fun j t ht => by
        rw [vaultLasts_params] at ht
        match j, ht with
        | 0, ht => cases ht; exact (show Tryz.prog.wantsStandIn 24 = false by kernel_rfl)
        | 1, ht => cases ht; exact (show Tryz.prog.wantsStandIn 24 = false by kernel_rfl)
        | 2, ht => cases ht; exact (show Tryz.prog.wantsStandIn 3 = false by kernel_rfl)
        | 3, ht => cases ht; exact (show Tryz.prog.wantsStandIn 25 = false by kernel_rfl)
        | _ + 4, ht => simp at ht⟩)
    (by kernel_rfl)
#print axioms vaultLasts_card
end Go.Proofs.YtjcchjgkkplamaaGreatDoor
