/- Proved: the law CodeOnce in its second form: for any grammar the law returns true, and its argument reads behind the call as before: in the program of a grammar parts stand ahead and each operation stands once. Conditions: the arguments are of bulk at most 1048576; the package-level variables hold what the program's own text lays (the card ties it). -/
import Derived.Test.YtllfpnbhjfadiaaGreatDoorOnce
import Derived.Test.YtllfpnbhjfadiaaGreatDoorGh
import Derived.Deep.DeepWitnessRowRef
import Derived.Test.YtllfpnbhjfadiaaGreatDoorTie
import Derived.Test.YtllfpnbhjfadiaaGreatDoorCards
import Derived.SevenTiedAt
import Derived.Deep.DeepHandedRow
set_option linter.unusedVariables false
set_option maxRecDepth 100000
namespace Go.Proofs.YtllfpnbhjfadiaaGreatDoor
open Go.ChangeShapes Go.WideShapes Go.RowKit Go.SW
theorem codeOnceUpto_params : Tryz.f3.params = #[24] := by kernel_rfl
theorem codeOnceUpto_results : Tryz.f3.resultTypes = #[4] := by kernel_rfl
theorem codeOnceUpto_reads (os : Os) {H : Type} (enc : TypeId × Value → H) : ∃ places, DataW.whole enc Tryz.prog (memL os #[.agg #[.slice none 0 0]]) Tryz.f3.params.toList Rows.codeOnceSpec.vars false (#[.agg #[.slice none 0 0]] : Array Value).toList 8 = some ([.agg [.nil]], [], places) :=
  ⟨[], by kernel_rfl⟩
theorem codeOnceUpto_lifted (os : Os) (started : os.Started) (H : Type) (enc : TypeId × Value → H) (F : Stop.Interp) :
    ReturnsInHanded {} Tryz.checked os 3 .any ((Rows.OpenSpec.upto Rows.codeOnceSpec).preRow enc Tryz.prog Tryz.f3 Rows.codeOnceUptoRow.domain false Rows.codeOnceUptoRow.laid) (((Rows.OpenSpec.upto Rows.codeOnceSpec).at F).post enc Tryz.prog Tryz.f3 false true false false) := by
  obtain ⟨places, hx⟩ := codeOnceUpto_reads os enc
  refine returnsInHanded_of_row (C := Tryz.checked) (s := Rows.OpenSpec.upto Rows.codeOnceSpec) ownP started (by kernel_rfl) Tryz.func3
    (witness_row_atRef (enc := enc) (C := Tryz.checked) false (laidWorldC os) #[.agg #[.slice none 0 0]] rfl (by kernel_rfl) (by kernel_rfl) (by kernel_rfl)
      (OpenSpec.preRow_of_cond 8 hx (by kernel_rfl) (fun k hk => by cases hk; kernel_rfl) (by kernel_rfl) (laidWorldC_met os _))) ?_
  intro W base args ds gs before hval0 hW _ hcond _ hL _ _
  have hval : ∀ (j : Nat) t v, Tryz.f3.params[j]? = some t → args[j]? = some v → Value.okWide Tryz.prog W .any base t v := hval0
  have hW' := hW
  obtain ⟨p, q, hA0, hV0, rfl, hfz, hnd⟩ := hW
  have hA : DataW.TrodAll enc Tryz.prog W 0 (fun _ => true) true Tryz.f3.params.toList args.toList ds p := hA0
  have hV : DataW.TrodVars enc Tryz.prog W (fun _ => true) [] gs q := hV0
  rw [codeOnceUpto_params] at hA hval
  obtain ⟨v0, vs0, d0, ds0, p0, q0, hq0, rfl, rfl, h0, r0⟩ := trodAll_cons hA
  obtain ⟨hqe, rfl, rfl⟩ := trodAll_nil r0
  obtain rfl : args = #[v0] := by
    apply Array.toList_inj.1
    rw [hq0, hqe]
  obtain ⟨rfl, rfl⟩ : gs = [] ∧ q = [] := by
    cases gs with
    | nil => exact ⟨rfl, hV⟩
    | cons g r => exact absurd hV (by intro h; cases h)
  have hG := handle_of_laidC hL
  have hbk := of_decide_eq_true (hcond _ rfl)
  simp only [Rows.uptoBulkAll, List.append_nil, List.cons_append, List.nil_append] at hbk
  obtain ⟨A, cap, rs, rfl, kR, kok, ksz⟩ := open_gramV (by omega) (hval 0 _ _ rfl rfl) h0
  obtain ⟨hT, hZ⟩ := tabs_ofC hL
  refine (CodeOnce_ct rs cap A W.cell? W hG (Zone.le.refl _) kR kok (by omega) hT hZ).mono ?_
  rintro v W' ⟨rfl, hF⟩
  exact post_true (s := Rows.codeOnceSpec) rfl codeOnceUpto_results (by kernel_rfl) hW' rfl hF.below
theorem codeOnceUpto_said : Rows.CodeOnceUptoSaid :=
  OpenClaim.holds_of_cond 3 Tryz.f3 rfl rfl rfl rfl rfl rfl rfl ⟨rfl, rfl, rfl, rfl, rfl⟩ rfl rfl rfl rfl rfl (by kernel_rfl) Tryz.func3 codeOnceUpto_facts
    (of_decide_eq_true (by kernel_rfl)) (by unfold Func.isWrapper; rw [if_neg (of_decide_eq_false (by kernel_rfl))]; exact ⟨rfl, rfl⟩)
    (fun os started H enc _ F => by rw [OpenClaim.pre_eq_preRow]; exact codeOnceUpto_lifted os started H enc F)
theorem codeOnceUpto_card : Rows.CodeOnceUptoCardSaid :=
  Claim7.holds_tied_plain_at .later [] _ _ _ _
    codeOnceUpto_said (fun _ h => by cases h) (by kernel_rfl) (fun _ h => by cases h) codeOnceUpto_row_tie rfl ⟨rfl, rfl⟩ (by kernel_rfl) rfl
    (fun f fn hf hfn => by
      obtain rfl : f = 3 := Option.some.inj ((show Tryz.prog.funcNamed "muntin/muntinlaw11.CodeOnce" = some 3 by kernel_rfl).symm.trans hf) |>.symm
      obtain rfl : fn = Tryz.f3 := (Option.some.inj (Tryz.func3.symm.trans hfn)).symm
      exact ⟨by kernel_rfl, fun j t ht => by
        rw [codeOnceUpto_params] at ht
        match j, ht with
        | 0, ht => cases ht; exact (show Tryz.prog.wantsStandIn 24 = false by kernel_rfl)
        | _ + 1, ht => simp at ht⟩)
    (by kernel_rfl)
#print axioms codeOnceUpto_card
end Go.Proofs.YtllfpnbhjfadiaaGreatDoor
