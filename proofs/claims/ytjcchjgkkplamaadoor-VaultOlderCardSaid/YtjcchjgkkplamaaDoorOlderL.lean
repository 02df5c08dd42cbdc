/- Proved: the law VaultOlder (muntinlaw20): for every two snapshots and any two whole numbers the law returns true, and its arguments read behind the call as before: parts of an older snapshot are refused. Condition: the package-level variable errors.errorType holds what the program's own text lays (the card ties it). -/
import Derived.Test.YtjcchjgkkplamaaDoorOlder
import Derived.Test.YtjcchjgkkplamaaDoorLawF
import Derived.Test.YtjcchjgkkplamaaDoorTie
import Derived.Test.YtjcchjgkkplamaaDoorCards
import Derived.SevenTiedAt
set_option linter.unusedVariables false
set_option maxRecDepth 100000
namespace Go.Proofs.YtjcchjgkkplamaaDoor
open Go.ChangeShapes Go.WideShapes Go.RowKit Go.SW
theorem older_params : Tryd.f6.params = #[24, 24, 3, 3] := by kernel_rfl
theorem older_results : Tryd.f6.resultTypes = #[4] := by kernel_rfl
theorem older_lifted (os : Os) (started : os.Started) (H : Type) (enc : TypeId × Value → H) :
    ReturnsInHanded {} Tryd.checked os 6 .any (fun w args => (Rows.vaultOlderSpec.pre enc Tryd.prog Tryd.f6 [] false w args ∧ laidMetH Tryd.prog laidL w) ∧ sizedMet enc Tryd.prog Tryd.f6 (OpenSpec.ofChange Rows.vaultOlderSpec) false w args)
      (Rows.vaultOlderSpec.post enc Tryd.prog Tryd.f6 false true false false) := by
  refine returnsInHanded_of_change_and (C := Tryd.checked) (X := fun w _ => laidMetH Tryd.prog laidL w) (fun _ _ _ hh h => h.of_heap hh) ownP started (by kernel_rfl) Tryd.func6
    (ChangeSpec.witness_at (enc := enc) (C := Tryd.checked) (os := os) (X := fun w _ => laidMetH Tryd.prog laidL w) false (laidWorld os) #[.agg #[.int .i64 0, .int .i64 0, .slice none 0 0, .slice none 0 0], .agg #[.int .i64 0, .int .i64 0, .slice none 0 0, .slice none 0 0], .int .i64 0, .int .i64 0] 8 rfl (by kernel_rfl) (by kernel_rfl) (by kernel_rfl) (by kernel_rfl) (by kernel_rfl) (laidWorld_met os _)) ?_
  intro W base args ds gs before hval0 hW _ hz hL _
  have hval : ∀ (j : Nat) t v, Tryd.f6.params[j]? = some t → args[j]? = some v → Value.okWide Tryd.prog W .any base t v := hval0
  have hW' := hW
  obtain ⟨p, q, hA0, hV0, rfl, hfz, hnd⟩ := hW
  have hA : DataW.TrodAll enc Tryd.prog W 0 (fun _ => true) true Tryd.f6.params.toList args.toList ds p := hA0
  have hV : DataW.TrodVars enc Tryd.prog W (fun _ => true) [] gs q := hV0
  have hz' : (DataW.weightsEach Tryd.prog (Tryd.f6.params.toList ++ []) (ds ++ gs)).all (· ≤ reachBytes) = true := hz
  rw [older_params] at hA hval hz'
  obtain ⟨v0, v1, v2, v3, d0, d1, d2, d3, p0, p1, p2, p3, rfl, rfl, rfl, h0, h1, h2, h3⟩ := trodAll_four hA
  obtain ⟨rfl, rfl⟩ : gs = [] ∧ q = [] := by
    cases gs with
    | nil => exact ⟨rfl, hV⟩
    | cons g r => exact absurd hV (by intro h; cases h)
  obtain ⟨i, t, va, vb, cf, dt, rfl, hi, ht, hc, hd, hs⟩ := open_snapV (hval 0 _ _ rfl rfl) h0
  obtain ⟨i2, t2, va2, vb2, cf2, dt2, rfl, hi2, ht2, hc2, hd2, hs2⟩ := open_snapV (hval 1 _ _ rfl rfl) h1
  obtain ⟨a, rfl, rfl, rfl, wa⟩ := open_int uInt (hval 2 _ _ rfl rfl) h2
  obtain ⟨o, rfl, rfl, rfl, wo⟩ := open_int uInt (hval 3 _ _ rfl rfl) h3
  have hG := handle_of_laid hL
  simp only [List.append_nil, DataW.weightsEach, List.all_append, Bool.and_eq_true] at hz'
  have l1 := (hs hz'.1).2
  have l2 := (hs2 hz'.2.1).2
  have hr : reachBytes ≤ 140737488355328 := by decide
  refine (VaultOlder_ct i t i2 t2 a o va vb va2 vb2 cf dt cf2 dt2 W hG hc hd hc2 hd2 hi ht hi2 ht2 (Nat.le_trans l1 hr) (Nat.le_trans l2 hr)).mono ?_
  rintro v W' ⟨rfl, hF⟩
  exact post_true rfl older_results (by kernel_rfl) hW' rfl hF.below
theorem vaultOlder_said : Rows.VaultOlderSaid :=
  OpenClaim.holds_of_wide 6 Tryd.f6 rfl rfl rfl rfl rfl rfl rfl ⟨rfl, rfl, rfl, rfl, rfl⟩ rfl rfl rfl rfl rfl (by kernel_rfl) Tryd.func6 (by kernel_rfl)
    (of_decide_eq_true (by kernel_rfl)) (by unfold Func.isWrapper; rw [if_neg (of_decide_eq_false (by kernel_rfl))]; exact ⟨rfl, rfl⟩)
    (fun os started H enc _ => older_lifted os started H enc)
theorem vaultOlder_card : Rows.VaultOlderCardSaid :=
  Claim7.holds_tied_plain_at .later [] [.handle] true (true, "ac366defa9b34b831fb7d1281a47913a1268124869032afabca0ce568c4382a7") true
    vaultOlder_said (fun _ h => by cases h) (by kernel_rfl) (fun _ h => by cases h) vaultOlder_row_tie rfl ⟨rfl, rfl⟩ (by kernel_rfl) rfl
    (fun f fn hf hfn => by
      obtain rfl : f = 6 := Option.some.inj ((show Tryd.prog.funcNamed "muntin/muntinlaw20.VaultOlder" = some 6 by kernel_rfl).symm.trans hf) |>.symm
      obtain rfl : fn = Tryd.f6 := (Option.some.inj (Tryd.func6.symm.trans hfn)).symm
      exact ⟨by kernel_rfl, fun j t ht => by
        rw [older_params] at ht
        match j, ht with
        | 0, ht => cases ht; exact (show Tryd.prog.wantsStandIn 24 = false by kernel_rfl)
        | 1, ht => cases ht; exact (show Tryd.prog.wantsStandIn 24 = false by kernel_rfl)
        | 2, ht => cases ht; exact (show Tryd.prog.wantsStandIn 3 = false by kernel_rfl)
        | 3, ht => cases ht; exact (show Tryd.prog.wantsStandIn 3 = false by kernel_rfl)
        | _ + 4, ht => simp at ht⟩)
    (by kernel_rfl)
#print axioms vaultOlder_card
end Go.Proofs.YtjcchjgkkplamaaDoor
