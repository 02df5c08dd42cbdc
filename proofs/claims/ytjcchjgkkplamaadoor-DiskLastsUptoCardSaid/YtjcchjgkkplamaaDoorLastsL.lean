/- Proved: the law DiskLasts in its second form: for any name and any row of acts the law returns true, and its arguments read behind the call as before: what is sure of a file to which only Append and Sync are done lasts. Conditions: the arguments are of bulk at most 1048576; the package-level variable errors.errorType holds what the program's own text lays (the card ties it). -/
import Derived.Test.YtjcchjgkkplamaaDoorLasts
import Derived.Test.YtjcchjgkkplamaaDoorLawUD
import Derived.Test.YtjcchjgkkplamaaDoorLawU
import Derived.Test.YtjcchjgkkplamaaDoorTie
import Derived.Test.YtjcchjgkkplamaaDoorCards
import Derived.SevenTiedAt
import Derived.Deep.DeepHandedRow
set_option linter.unusedVariables false
set_option maxRecDepth 100000
namespace Go.Proofs.YtjcchjgkkplamaaDoor
open Go.ChangeShapes Go.WideShapes Go.RowKit Go.SW
theorem diskLastsUpto_params : Tryd.f9.params = #[9, 70] := by kernel_rfl
theorem diskLastsUpto_results : Tryd.f9.resultTypes = #[4] := by kernel_rfl
theorem diskLastsUpto_reads (os : Os) {H : Type} (enc : TypeId × Value → H) : ∃ places, DataW.whole enc Tryd.prog ((laidWorld os).forCall (fun _ _ => 0) ⟨#[], #[.string (bs []), .slice none 0 0], []⟩).memory Tryd.f9.params.toList Rows.diskLastsSpec.vars false (#[.string (bs []), .slice none 0 0] : Array Value).toList 8 = some ([.lit (.string []), .nil], [], places) :=
  ⟨[], by kernel_rfl⟩
theorem diskLastsUpto_lifted (os : Os) (started : os.Started) (H : Type) (enc : TypeId × Value → H) (F : Stop.Interp) :
    ReturnsInHanded {} Tryd.checked os 9 .any ((Rows.OpenSpec.upto Rows.diskLastsSpec).preRow enc Tryd.prog Tryd.f9 Rows.diskLastsUptoRow.domain false Rows.diskLastsUptoRow.laid) (((Rows.OpenSpec.upto Rows.diskLastsSpec).at F).post enc Tryd.prog Tryd.f9 false true false false) := by
  obtain ⟨places, hx⟩ := diskLastsUpto_reads os enc
  refine returnsInHanded_of_row (C := Tryd.checked) (s := Rows.OpenSpec.upto Rows.diskLastsSpec) ownP started (by kernel_rfl) Tryd.func9
    (witness_row_at (enc := enc) (C := Tryd.checked) false (laidWorld os) #[.string (bs []), .slice none 0 0] rfl (by kernel_rfl) (by kernel_rfl) (by kernel_rfl)
      (OpenSpec.preRow_of_cond 8 hx (by kernel_rfl) (fun k hk => by cases hk; kernel_rfl) (by kernel_rfl) (laidWorld_met os _))) ?_
  intro W base args ds gs before hval0 hW _ hcond _ hL _ _
  have hval : ∀ (j : Nat) t v, Tryd.f9.params[j]? = some t → args[j]? = some v → Value.okWide Tryd.prog W .any base t v := hval0
  have hW' := hW
  obtain ⟨p, q, hA0, hV0, rfl, hfz, hnd⟩ := hW
  have hA : DataW.TrodAll enc Tryd.prog W 0 (fun _ => true) true Tryd.f9.params.toList args.toList ds p := hA0
  have hV : DataW.TrodVars enc Tryd.prog W (fun _ => true) [] gs q := hV0
  rw [diskLastsUpto_params] at hA hval
  obtain ⟨v0, vs0, d0, ds0, p0, q0, hq0, rfl, rfl, h0, r0⟩ := trodAll_cons hA
  obtain ⟨v1, vs1, d1, ds1, p1, q1, hq1, rfl, rfl, h1, r1⟩ := trodAll_cons r0
  obtain ⟨hqe, rfl, rfl⟩ := trodAll_nil r1
  obtain rfl : args = #[v0, v1] := by
    apply Array.toList_inj.1
    rw [hq0, hq1, hqe]
  obtain ⟨rfl, rfl⟩ : gs = [] ∧ q = [] := by
    cases gs with
    | nil => exact ⟨rfl, hV⟩
    | cons g r => exact absurd hV (by intro h; cases h)
  have hG := handle_of_laid hL
  have hbk := of_decide_eq_true (hcond _ rfl)
  simp only [Rows.uptoBulkAll, List.append_nil, List.cons_append, List.nil_append] at hbk
  obtain ⟨nm, rfl, _, _⟩ := open_strV (hval 0 _ _ rfl rfl) h0
  obtain ⟨ac, kR, kok, ksum⟩ := open_actsV (hval 1 _ _ rfl rfl) h1 (by omega)
  refine (DiskLasts_ct nm v1 ac W hG kR kok (by omega)).mono ?_
  rintro v W' ⟨rfl, hF⟩
  exact post_true (s := Rows.diskLastsSpec) rfl diskLastsUpto_results (by kernel_rfl) hW' rfl hF.below
theorem diskLastsUpto_said : Rows.DiskLastsUptoSaid :=
  OpenClaim.holds_of_cond 9 Tryd.f9 rfl rfl rfl rfl rfl rfl rfl ⟨rfl, rfl, rfl, rfl, rfl⟩ rfl rfl rfl rfl rfl (by kernel_rfl) Tryd.func9 (by kernel_rfl)
    (of_decide_eq_true (by kernel_rfl)) (by unfold Func.isWrapper; rw [if_neg (of_decide_eq_false (by kernel_rfl))]; exact ⟨rfl, rfl⟩)
    (fun os started H enc _ F => by rw [OpenClaim.pre_eq_preRow]; exact diskLastsUpto_lifted os started H enc F)
theorem diskLastsUpto_card : Rows.DiskLastsUptoCardSaid :=
  Claim7.holds_tied_plain_at .later [] _ _ _ _
    diskLastsUpto_said (fun _ h => by cases h) (by kernel_rfl) (fun _ h => by cases h) diskLastsUpto_row_tie rfl ⟨rfl, rfl⟩ (by kernel_rfl) rfl
    (fun f fn hf hfn => by
      obtain rfl : f = 9 := Option.some.inj ((show Tryd.prog.funcNamed "muntin/muntinlaw18.DiskLasts" = some 9 by kernel_rfl).symm.trans hf) |>.symm
      obtain rfl : fn = Tryd.f9 := (Option.some.inj (Tryd.func9.symm.trans hfn)).symm
      exact ⟨by kernel_rfl, fun j t ht => by
        rw [diskLastsUpto_params] at ht
        match j, ht with
        | 0, ht => cases ht; exact (show Tryd.prog.wantsStandIn 9 = false by kernel_rfl)
        | 1, ht => cases ht; exact (show Tryd.prog.wantsStandIn 70 = false by kernel_rfl)
        | _ + 2, ht => simp at ht⟩)
    (by kernel_rfl)
#print axioms diskLastsUpto_card
end Go.Proofs.YtjcchjgkkplamaaDoor
