/- Proved: the law WalNothing in its second form: for any row of acts the law returns true, and its argument reads behind the call as before: what is there already is not saved, and a term below nothing is refused. Conditions: the arguments are of bulk at most 1048576; the package-level variables errors.errorType, internal/strconv.uint64pow10, math/bits.deBruijn32tab and deBruijn64tab hold what the program's own text lays (the card ties it). -/
import Derived.Test.YtajapgjemefoiaaGreatDoorWNothing
import Derived.Test.YtajapgjemefoiaaGreatDoorGi
import Derived.Test.YtajapgjemefoiaaGreatDoorGb
import Derived.Test.YtajapgjemefoiaaGreatDoorTie
import Derived.Test.YtajapgjemefoiaaGreatDoorCards
import Derived.SevenTiedAt
import Derived.Deep.DeepHandedRow
set_option linter.unusedVariables false
set_option maxRecDepth 100000
namespace Go.Proofs.YtajapgjemefoiaaGreatDoor
open Go.ChangeShapes Go.WideShapes Go.RowKit Go.SW
theorem walNothingUpto_params : Tryz.f4.params = #[41] := by kernel_rfl
theorem walNothingUpto_results : Tryz.f4.resultTypes = #[4] := by kernel_rfl
theorem walNothingUpto_reads (os : Os) {H : Type} (enc : TypeId × Value → H) : ∃ places, DataW.whole enc Tryz.prog ((laidWorldW os).forCall (fun _ _ => 0) ⟨#[], #[.slice none 0 0], []⟩).memory Tryz.f4.params.toList Rows.walNothingSpec.vars false (#[.slice none 0 0] : Array Value).toList 8 = some ([.nil], [], places) :=
  ⟨[], by kernel_rfl⟩
theorem walNothingUpto_lifted (os : Os) (started : os.Started) (H : Type) (enc : TypeId × Value → H) (F : Stop.Interp) :
    ReturnsInHanded {} Tryz.checked os 4 .any ((Rows.OpenSpec.upto Rows.walNothingSpec).preRow enc Tryz.prog Tryz.f4 Rows.walNothingUptoRow.domain false Rows.walNothingUptoRow.laid) (((Rows.OpenSpec.upto Rows.walNothingSpec).at F).post enc Tryz.prog Tryz.f4 false true false false) := by
  obtain ⟨places, hx⟩ := walNothingUpto_reads os enc
  refine returnsInHanded_of_row (C := Tryz.checked) (s := Rows.OpenSpec.upto Rows.walNothingSpec) ownP started (by kernel_rfl) Tryz.func4
    (witness_row_at (enc := enc) (C := Tryz.checked) false (laidWorldW os) #[.slice none 0 0] rfl (by kernel_rfl) (by kernel_rfl) (by kernel_rfl)
      (OpenSpec.preRow_of_cond 8 hx (by kernel_rfl) (fun k hk => by cases hk; kernel_rfl) (by kernel_rfl) (laidWorldW_met os _))) ?_
  intro W base args ds gs before hval0 hW _ hcond _ hL _ _
  have hval : ∀ (j : Nat) t v, Tryz.f4.params[j]? = some t → args[j]? = some v → Value.okWide Tryz.prog W .any base t v := hval0
  have hW' := hW
  obtain ⟨p, q, hA0, hV0, rfl, hfz, hnd⟩ := hW
  have hA : DataW.TrodAll enc Tryz.prog W 0 (fun _ => true) true Tryz.f4.params.toList args.toList ds p := hA0
  have hV : DataW.TrodVars enc Tryz.prog W (fun _ => true) [] gs q := hV0
  rw [walNothingUpto_params] at hA hval
  obtain ⟨v0, vs0, d0, ds0, p0, q0, hq0, rfl, rfl, h0, r0⟩ := trodAll_cons hA
  obtain ⟨hqe, rfl, rfl⟩ := trodAll_nil r0
  obtain rfl : args = #[v0] := by
    apply Array.toList_inj.1
    rw [hq0, hqe]
  obtain ⟨rfl, rfl⟩ : gs = [] ∧ q = [] := by
    cases gs with
    | nil => exact ⟨rfl, hV⟩
    | cons g r => exact absurd hV (by intro h; cases h)
  have hG := handle_of_laidW hL
  have hbk := of_decide_eq_true (hcond _ rfl)
  simp only [Rows.uptoBulkAll, List.append_nil, List.cons_append, List.nil_append] at hbk
  obtain ⟨ac, kR, kok, ksum⟩ := open_acts19 (hval 0 _ _ rfl rfl) h0
  refine (WalNothing_ct v0 ac W hG kR kok (by omega)).mono ?_
  rintro v W' ⟨rfl, hF⟩
  exact post_true (s := Rows.walNothingSpec) rfl walNothingUpto_results (by kernel_rfl) hW' rfl hF.below
theorem walNothingUpto_said : Rows.WalNothingUptoSaid :=
  OpenClaim.holds_of_cond 4 Tryz.f4 rfl rfl rfl rfl rfl rfl rfl ⟨rfl, rfl, rfl, rfl, rfl⟩ rfl rfl rfl rfl rfl (by kernel_rfl) Tryz.func4 (by kernel_rfl)
    (of_decide_eq_true (by kernel_rfl)) (by unfold Func.isWrapper; rw [if_neg (of_decide_eq_false (by kernel_rfl))]; exact ⟨rfl, rfl⟩)
    (fun os started H enc _ F => by rw [OpenClaim.pre_eq_preRow]; exact walNothingUpto_lifted os started H enc F)
theorem walNothingUpto_card : Rows.WalNothingUptoCardSaid :=
  Claim7.holds_tied_plain_at .later [] _ _ _ _
    walNothingUpto_said (fun _ h => by cases h) (by kernel_rfl) (fun _ h => by cases h) walNothingUpto_row_tie rfl ⟨rfl, rfl⟩ (by kernel_rfl) rfl
    (fun f fn hf hfn => by
      obtain rfl : f = 4 := Option.some.inj ((show Tryz.prog.funcNamed "muntin/muntinlaw19.WalNothing" = some 4 by kernel_rfl).symm.trans hf) |>.symm
      obtain rfl : fn = Tryz.f4 := (Option.some.inj (Tryz.func4.symm.trans hfn)).symm
      exact ⟨by kernel_rfl, fun j t ht => by
        rw [walNothingUpto_params] at ht
        match j, ht with
        | 0, ht => cases ht; exact (show Tryz.prog.wantsStandIn 41 = false by kernel_rfl)
        | _ + 1, ht => simp at ht⟩)
    (by kernel_rfl)
#print axioms walNothingUpto_card
end Go.Proofs.YtajapgjemefoiaaGreatDoor
