/- Proved: the law DiskApart in its second form: for any row of acts and any name the law returns true, and its arguments read behind the call as before: what is done to one file changes no other one. Conditions: the arguments are of bulk at most 1048576; the package-level variable errors.errorType holds what the program's own text lays (the card ties it). -/
import Derived.Test.YtjcchjgkkplamaaDoorApart
import Derived.Test.YtjcchjgkkplamaaDoorLawUD
import Derived.Test.YtjcchjgkkplamaaDoorLawU
import Derived.Test.YtjcchjgkkplamaaDoorTie
import Derived.Test.YtjcchjgkkplamaaDoorCards
import Derived.SevenTiedAt
import Derived.Deep.DeepHandedRow
set_option linter.unusedVariables false
set_option maxRecDepth 100000
namespace Go.Proofs.YtjcchjgkkplamaaDoor
open Go.ChangeShapes Go.WideShapes Go.RowKit Go.SW
theorem diskApartUpto_params : Tryd.f10.params = #[70, 9] := by kernel_rfl
theorem diskApartUpto_results : Tryd.f10.resultTypes = #[4] := by kernel_rfl
theorem diskApartUpto_reads (os : Os) {H : Type} (enc : TypeId × Value → H) : ∃ places, DataW.whole enc Tryd.prog ((laidWorld os).forCall (fun _ _ => 0) ⟨#[], #[.slice none 0 0, .string (bs [])], []⟩).memory Tryd.f10.params.toList Rows.diskApartSpec.vars false (#[.slice none 0 0, .string (bs [])] : Array Value).toList 8 = some ([.nil, .lit (.string [])], [], places) :=
  ⟨[], by kernel_rfl⟩
theorem diskApartUpto_lifted (os : Os) (started : os.Started) (H : Type) (enc : TypeId × Value → H) (F : Stop.Interp) :
    ReturnsInHanded {} Tryd.checked os 10 .any ((Rows.OpenSpec.upto Rows.diskApartSpec).preRow enc Tryd.prog Tryd.f10 Rows.diskApartUptoRow.domain false Rows.diskApartUptoRow.laid) (((Rows.OpenSpec.upto Rows.diskApartSpec).at F).post enc Tryd.prog Tryd.f10 false true false false) := by
  obtain ⟨places, hx⟩ := diskApartUpto_reads os enc
  refine returnsInHanded_of_row (C := Tryd.checked) (s := Rows.OpenSpec.upto Rows.diskApartSpec) ownP started (by kernel_rfl) Tryd.func10
    (witness_row_at (enc := enc) (C := Tryd.checked) false (laidWorld os) #[.slice none 0 0, .string (bs [])] rfl (by kernel_rfl) (by kernel_rfl) (by kernel_rfl)
      (OpenSpec.preRow_of_cond 8 hx (by kernel_rfl) (fun k hk => by cases hk; kernel_rfl) (by kernel_rfl) (laidWorld_met os _))) ?_
  intro W base args ds gs before hval0 hW _ hcond _ hL _ _
  have hval : ∀ (j : Nat) t v, Tryd.f10.params[j]? = some t → args[j]? = some v → Value.okWide Tryd.prog W .any base t v := hval0
  have hW' := hW
  obtain ⟨p, q, hA0, hV0, rfl, hfz, hnd⟩ := hW
  have hA : DataW.TrodAll enc Tryd.prog W 0 (fun _ => true) true Tryd.f10.params.toList args.toList ds p := hA0
  have hV : DataW.TrodVars enc Tryd.prog W (fun _ => true) [] gs q := hV0
  rw [diskApartUpto_params] at hA hval
  obtain ⟨v0, vs0, d0, ds0, p0, q0, hq0, rfl, rfl, h0, r0⟩ := trodAll_cons hA
  obtain ⟨v1, vs1, d1, ds1, p1, q1, hq1, rfl, rfl, h1, r1⟩ := trodAll_cons r0
  obtain ⟨hqe, rfl, rfl⟩ := trodAll_nil r1
  obtain rfl : args = #[v0, v1] := by
    apply Array.toList_inj.1
    rw [hq0, hq1, hqe]
  obtain ⟨rfl, rfl⟩ : gs = [] ∧ q = [] := by
    cases gs with
    | nil => exact ⟨rfl, hV⟩
    | cons g r => exact absurd hV (by intro h; cases h)
  have hG := handle_of_laid hL
  have hbk := of_decide_eq_true (hcond _ rfl)
  simp only [Rows.uptoBulkAll, List.append_nil, List.cons_append, List.nil_append] at hbk
  obtain ⟨ac, kR, kok, ksum⟩ := open_actsV (hval 0 _ _ rfl rfl) h0 (by omega)
  obtain ⟨nm, rfl, _, _⟩ := open_strV (hval 1 _ _ rfl rfl) h1
  refine (DiskApart_ct v0 ac nm W hG kR kok (by omega)).mono ?_
  rintro v W' ⟨rfl, hF⟩
  exact post_true (s := Rows.diskApartSpec) rfl diskApartUpto_results (by kernel_rfl) hW' rfl hF.below
theorem diskApartUpto_said : Rows.DiskApartUptoSaid :=
  OpenClaim.holds_of_cond 10 Tryd.f10 rfl rfl rfl rfl rfl rfl rfl ⟨rfl, rfl, rfl, rfl, rfl⟩ rfl rfl rfl rfl rfl (by kernel_rfl) Tryd.func10 (by kernel_rfl)
    (of_decide_eq_true (by kernel_rfl)) (by unfold Func.isWrapper; rw [if_neg (of_decide_eq_false (by kernel_rfl))]; exact ⟨rfl, rfl⟩)
    (fun os started H enc _ F => by rw [OpenClaim.pre_eq_preRow]; exact diskApartUpto_lifted os started H enc F)
theorem diskApartUpto_card : Rows.DiskApartUptoCardSaid :=
  Claim7.holds_tied_plain_at .later [] _ _ _ _
    diskApartUpto_said (fun _ h => by cases h) (by kernel_rfl) (fun _ h => by cases h) diskApartUpto_row_tie rfl ⟨rfl, rfl⟩ (by kernel_rfl) rfl
    (fun f fn hf hfn => by
      obtain rfl : f = 10 := Option.some.inj ((show Tryd.prog.funcNamed "muntin/muntinlaw18.DiskApart" = some 10 by kernel_rfl).symm.trans hf) |>.symm
      obtain rfl : fn = Tryd.f10 := (Option.some.inj (Tryd.func10.symm.trans hfn)).symm
      exact ⟨by kernel_rfl, fun j t ht => by
        rw [diskApartUpto_params] at ht
        match j, ht with
        | 0, ht => cases ht; exact (show Tryd.prog.wantsStandIn 70 = false by kernel_rfl)
        | 1, ht => cases ht; exact (show Tryd.prog.wantsStandIn 9 = false by kernel_rfl)
        | _ + 2, ht => simp at ht⟩)
    (by kernel_rfl)
#print axioms diskApartUpto_card
end Go.Proofs.YtjcchjgkkplamaaDoor
