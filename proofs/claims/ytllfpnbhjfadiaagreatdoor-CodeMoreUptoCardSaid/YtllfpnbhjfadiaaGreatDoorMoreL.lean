/- Proved: the law CodeMore in its second form: for any grammar and any expression the law returns true, and its arguments read behind the call as before: one more rule behind the others changes nothing of theirs. Conditions: the arguments are of bulk at most 1048576; the package-level variables hold what the program's own text lays (the card ties it). -/
import Derived.Test.YtllfpnbhjfadiaaGreatDoorMore
import Derived.Test.YtllfpnbhjfadiaaGreatDoorGh
import Derived.Deep.DeepWitnessRowRef
import Derived.Test.YtllfpnbhjfadiaaGreatDoorTie
import Derived.Test.YtllfpnbhjfadiaaGreatDoorCards
import Derived.SevenTiedAt
import Derived.Deep.DeepHandedRow
set_option linter.unusedVariables false
set_option maxRecDepth 100000
namespace Go.Proofs.YtllfpnbhjfadiaaGreatDoor
open Go.ChangeShapes Go.WideShapes Go.RowKit Go.SW
theorem codeMoreUpto_params : Tryz.f4.params = #[24, 41] := by kernel_rfl
theorem codeMoreUpto_results : Tryz.f4.resultTypes = #[4] := by kernel_rfl
theorem codeMoreUpto_reads (os : Os) {H : Type} (enc : TypeId × Value → H) : ∃ places, DataW.whole enc Tryz.prog (memL os #[.agg #[.slice none 0 0], .agg #[.int .i64 0, .string (bs []), .int .u64 0, .int .u64 0, .int .u64 0, .int .u64 0, .slice none 0 0, .int .i64 0]]) Tryz.f4.params.toList Rows.codeMoreSpec.vars false (#[.agg #[.slice none 0 0], .agg #[.int .i64 0, .string (bs []), .int .u64 0, .int .u64 0, .int .u64 0, .int .u64 0, .slice none 0 0, .int .i64 0]] : Array Value).toList 8 = some ([.agg [.nil], .agg [.lit (.int .i64 0), .lit (.string []), .agg [.lit (.int .u64 0), .lit (.int .u64 0), .lit (.int .u64 0), .lit (.int .u64 0)], .nil, .lit (.int .i64 0)]], [], places) :=
  ⟨[], by kernel_rfl⟩
theorem codeMoreUpto_lifted (os : Os) (started : os.Started) (H : Type) (enc : TypeId × Value → H) (F : Stop.Interp) :
    ReturnsInHanded {} Tryz.checked os 4 .any ((Rows.OpenSpec.upto Rows.codeMoreSpec).preRow enc Tryz.prog Tryz.f4 Rows.codeMoreUptoRow.domain false Rows.codeMoreUptoRow.laid) (((Rows.OpenSpec.upto Rows.codeMoreSpec).at F).post enc Tryz.prog Tryz.f4 false true false false) := by
  obtain ⟨places, hx⟩ := codeMoreUpto_reads os enc
  refine returnsInHanded_of_row (C := Tryz.checked) (s := Rows.OpenSpec.upto Rows.codeMoreSpec) ownP started (by kernel_rfl) Tryz.func4
    (witness_row_atRef (enc := enc) (C := Tryz.checked) false (laidWorldC os) #[.agg #[.slice none 0 0], .agg #[.int .i64 0, .string (bs []), .int .u64 0, .int .u64 0, .int .u64 0, .int .u64 0, .slice none 0 0, .int .i64 0]] rfl (by kernel_rfl) (by kernel_rfl) (by kernel_rfl)
      (OpenSpec.preRow_of_cond 8 hx (by kernel_rfl) (fun k hk => by cases hk; kernel_rfl) (by kernel_rfl) (laidWorldC_met os _))) ?_
  intro W base args ds gs before hval0 hW _ hcond _ hL _ _
  have hval : ∀ (j : Nat) t v, Tryz.f4.params[j]? = some t → args[j]? = some v → Value.okWide Tryz.prog W .any base t v := hval0
  have hW' := hW
  obtain ⟨p, q, hA0, hV0, rfl, hfz, hnd⟩ := hW
  have hA : DataW.TrodAll enc Tryz.prog W 0 (fun _ => true) true Tryz.f4.params.toList args.toList ds p := hA0
  have hV : DataW.TrodVars enc Tryz.prog W (fun _ => true) [] gs q := hV0
  rw [codeMoreUpto_params] at hA hval
  obtain ⟨v0, vs0, d0, ds0, p0, q0, hq0, rfl, rfl, h0, r0⟩ := trodAll_cons hA
  obtain ⟨v1, vs1, d1, ds1, p1, q1, hq1, rfl, rfl, h1, r1⟩ := trodAll_cons r0
  obtain ⟨hqe, rfl, rfl⟩ := trodAll_nil r1
  obtain rfl : args = #[v0, v1] := by
    apply Array.toList_inj.1
    rw [hq0, hq1, hqe]
  obtain ⟨rfl, rfl⟩ : gs = [] ∧ q = [] := by
    cases gs with
    | nil => exact ⟨rfl, hV⟩
    | cons g r => exact absurd hV (by intro h; cases h)
  have hG := handle_of_laidC hL
  have hbk := of_decide_eq_true (hcond _ rfl)
  simp only [Rows.uptoBulkAll, List.append_nil, List.cons_append, List.nil_append] at hbk
  obtain ⟨A, cap, rs, rfl, kR, kok, ksz⟩ := open_gramV (by omega) (hval 0 _ _ rfl rfl) h0
  obtain ⟨tn, rfl, ktn, ksn⟩ := open_nodeV (by omega) (hval 1 _ _ rfl rfl) h1
  obtain ⟨hT, hZ⟩ := tabs_ofC hL
  refine (CodeMore_ct rs tn cap A W.cell? W hG (Zone.le.refl _) kR kok ktn (by omega) hT hZ).mono ?_
  rintro v W' ⟨rfl, hF⟩
  exact post_true (s := Rows.codeMoreSpec) rfl codeMoreUpto_results (by kernel_rfl) hW' rfl hF.below
theorem codeMoreUpto_said : Rows.CodeMoreUptoSaid :=
  OpenClaim.holds_of_cond 4 Tryz.f4 rfl rfl rfl rfl rfl rfl rfl ⟨rfl, rfl, rfl, rfl, rfl⟩ rfl rfl rfl rfl rfl (by kernel_rfl) Tryz.func4 codeMoreUpto_facts
    (of_decide_eq_true (by kernel_rfl)) (by unfold Func.isWrapper; rw [if_neg (of_decide_eq_false (by kernel_rfl))]; exact ⟨rfl, rfl⟩)
    (fun os started H enc _ F => by rw [OpenClaim.pre_eq_preRow]; exact codeMoreUpto_lifted os started H enc F)
theorem codeMoreUpto_card : Rows.CodeMoreUptoCardSaid :=
  Claim7.holds_tied_plain_at .later [] _ _ _ _
    codeMoreUpto_said (fun _ h => by cases h) (by kernel_rfl) (fun _ h => by cases h) codeMoreUpto_row_tie rfl ⟨rfl, rfl⟩ (by kernel_rfl) rfl
    (fun f fn hf hfn => by
      obtain rfl : f = 4 := Option.some.inj ((show Tryz.prog.funcNamed "muntin/muntinlaw11.CodeMore" = some 4 by kernel_rfl).symm.trans hf) |>.symm
      obtain rfl : fn = Tryz.f4 := (Option.some.inj (Tryz.func4.symm.trans hfn)).symm
      exact ⟨by kernel_rfl, fun j t ht => by
        rw [codeMoreUpto_params] at ht
        match j, ht with
        | 0, ht => cases ht; exact (show Tryz.prog.wantsStandIn 24 = false by kernel_rfl)
        | 1, ht => cases ht; exact (show Tryz.prog.wantsStandIn 41 = false by kernel_rfl)
        | _ + 2, ht => simp at ht⟩)
    (by kernel_rfl)
#print axioms codeMoreUpto_card
end Go.Proofs.YtllfpnbhjfadiaaGreatDoor
