/- Proved: the law DiskWhole in its second form: for any acts, name, bytes, part, cut and kept numbers the law returns true, and its arguments read behind the call as before: a Put lasts wholly, or not at all. Conditions: the arguments are of bulk at most 1048576; the package-level variable errors.errorType holds what the program's own text lays (the card ties it). -/
import Derived.Test.YtjcchjgkkplamaaDoorDWhole
import Derived.Test.YtjcchjgkkplamaaDoorLawUD
import Derived.Test.YtjcchjgkkplamaaDoorLawU
import Derived.Test.YtjcchjgkkplamaaDoorTie
import Derived.Test.YtjcchjgkkplamaaDoorCards
import Derived.SevenTiedAt
import Derived.Deep.DeepHandedRow
set_option linter.unusedVariables false
set_option maxRecDepth 100000
namespace Go.Proofs.YtjcchjgkkplamaaDoor
open Go.ChangeShapes Go.WideShapes Go.RowKit Go.SW
theorem diskWholeUpto_params : Tryd.f7.params = #[70, 9, 22, 3, 4, 66] := by kernel_rfl
theorem diskWholeUpto_results : Tryd.f7.resultTypes = #[4] := by kernel_rfl
theorem diskWholeUpto_reads (os : Os) {H : Type} (enc : TypeId × Value → H) : ∃ places, DataW.whole enc Tryd.prog ((laidWorld os).forCall (fun _ _ => 0) ⟨#[], #[.slice none 0 0, .string (bs []), .slice none 0 0, .int .i64 0, .bool false, .slice none 0 0], []⟩).memory Tryd.f7.params.toList Rows.diskWholeSpec.vars false (#[.slice none 0 0, .string (bs []), .slice none 0 0, .int .i64 0, .bool false, .slice none 0 0] : Array Value).toList 8 = some ([.nil, .lit (.string []), .nil, .lit (.int .i64 0), .lit (.bool false), .nil], [], places) :=
  ⟨[], by kernel_rfl⟩
theorem diskWholeUpto_lifted (os : Os) (started : os.Started) (H : Type) (enc : TypeId × Value → H) (F : Stop.Interp) :
    ReturnsInHanded {} Tryd.checked os 7 .any ((Rows.OpenSpec.upto Rows.diskWholeSpec).preRow enc Tryd.prog Tryd.f7 Rows.diskWholeUptoRow.domain false Rows.diskWholeUptoRow.laid) (((Rows.OpenSpec.upto Rows.diskWholeSpec).at F).post enc Tryd.prog Tryd.f7 false true false false) := by
  obtain ⟨places, hx⟩ := diskWholeUpto_reads os enc
  refine returnsInHanded_of_row (C := Tryd.checked) (s := Rows.OpenSpec.upto Rows.diskWholeSpec) ownP started (by kernel_rfl) Tryd.func7
    (witness_row_at (enc := enc) (C := Tryd.checked) false (laidWorld os) #[.slice none 0 0, .string (bs []), .slice none 0 0, .int .i64 0, .bool false, .slice none 0 0] rfl (by kernel_rfl) (by kernel_rfl) (by kernel_rfl)
      (OpenSpec.preRow_of_cond 8 hx (by kernel_rfl) (fun k hk => by cases hk; kernel_rfl) (by kernel_rfl) (laidWorld_met os _))) ?_
  intro W base args ds gs before hval0 hW _ hcond _ hL _ _
  have hval : ∀ (j : Nat) t v, Tryd.f7.params[j]? = some t → args[j]? = some v → Value.okWide Tryd.prog W .any base t v := hval0
  have hW' := hW
  obtain ⟨p, q, hA0, hV0, rfl, hfz, hnd⟩ := hW
  have hA : DataW.TrodAll enc Tryd.prog W 0 (fun _ => true) true Tryd.f7.params.toList args.toList ds p := hA0
  have hV : DataW.TrodVars enc Tryd.prog W (fun _ => true) [] gs q := hV0
  rw [diskWholeUpto_params] at hA hval
  obtain ⟨v0, vs0, d0, ds0, p0, q0, hq0, rfl, rfl, h0, r0⟩ := trodAll_cons hA
  obtain ⟨v1, vs1, d1, ds1, p1, q1, hq1, rfl, rfl, h1, r1⟩ := trodAll_cons r0
  obtain ⟨v2, vs2, d2, ds2, p2, q2, hq2, rfl, rfl, h2, r2⟩ := trodAll_cons r1
  obtain ⟨v3, vs3, d3, ds3, p3, q3, hq3, rfl, rfl, h3, r3⟩ := trodAll_cons r2
  obtain ⟨v4, vs4, d4, ds4, p4, q4, hq4, rfl, rfl, h4, r4⟩ := trodAll_cons r3
  obtain ⟨v5, vs5, d5, ds5, p5, q5, hq5, rfl, rfl, h5, r5⟩ := trodAll_cons r4
  obtain ⟨hqe, rfl, rfl⟩ := trodAll_nil r5
  obtain rfl : args = #[v0, v1, v2, v3, v4, v5] := by
    apply Array.toList_inj.1
    rw [hq0, hq1, hq2, hq3, hq4, hq5, hqe]
  obtain ⟨rfl, rfl⟩ : gs = [] ∧ q = [] := by
    cases gs with
    | nil => exact ⟨rfl, hV⟩
    | cons g r => exact absurd hV (by intro h; cases h)
  have hG := handle_of_laid hL
  have hbk := of_decide_eq_true (hcond _ rfl)
  simp only [Rows.uptoBulkAll, List.append_nil, List.cons_append, List.nil_append] at hbk
  obtain ⟨ac, kR, kok, ksum⟩ := open_actsV (hval 0 _ _ rfl rfl) h0 (by omega)
  obtain ⟨nm, rfl, hnm, _⟩ := open_strV (hval 1 _ _ rfl rfl) h1
  obtain ⟨pb, kp, hpb⟩ := open_bytesVU (hval 2 _ _ rfl rfl) h2
  obtain ⟨pq, rfl, _, _⟩ := open_intV (hval 3 _ _ rfl rfl) h3
  obtain ⟨ct, rfl⟩ := open_boolV (hval 4 _ _ rfl rfl) h4
  obtain ⟨ks, kk, _⟩ := open_numsVU (hval 5 _ _ rfl rfl) h5
  refine (DiskWhole_ct v0 ac nm v2 pb pq ct v5 ks W hG kR kok (by omega) (by omega) kp kk).mono ?_
  rintro v W' ⟨rfl, hF⟩
  exact post_true (s := Rows.diskWholeSpec) rfl diskWholeUpto_results (by kernel_rfl) hW' rfl hF.below
theorem diskWholeUpto_said : Rows.DiskWholeUptoSaid :=
  OpenClaim.holds_of_cond 7 Tryd.f7 rfl rfl rfl rfl rfl rfl rfl ⟨rfl, rfl, rfl, rfl, rfl⟩ rfl rfl rfl rfl rfl (by kernel_rfl) Tryd.func7 (by kernel_rfl)
    (of_decide_eq_true (by kernel_rfl)) (by unfold Func.isWrapper; rw [if_neg (of_decide_eq_false (by kernel_rfl))]; exact ⟨rfl, rfl⟩)
    (fun os started H enc _ F => by rw [OpenClaim.pre_eq_preRow]; exact diskWholeUpto_lifted os started H enc F)
theorem diskWholeUpto_card : Rows.DiskWholeUptoCardSaid :=
  Claim7.holds_tied_plain_at .later [] _ _ _ _
    diskWholeUpto_said (fun _ h => by cases h) (by kernel_rfl) (fun _ h => by cases h) diskWholeUpto_row_tie rfl ⟨rfl, rfl⟩ (by kernel_rfl) rfl
    (fun f fn hf hfn => by
      obtain rfl : f = 7 := Option.some.inj ((show Tryd.prog.funcNamed "muntin/muntinlaw18.DiskWhole" = some 7 by kernel_rfl).symm.trans hf) |>.symm
      obtain rfl : fn = Tryd.f7 := (Option.some.inj (Tryd.func7.symm.trans hfn)).symm
      exact ⟨by kernel_rfl, fun j t ht => by
        rw [diskWholeUpto_params] at ht
        match j, ht with
        | 0, ht => cases ht; exact (show Tryd.prog.wantsStandIn 70 = false by kernel_rfl)
        | 1, ht => cases ht; exact (show Tryd.prog.wantsStandIn 9 = false by kernel_rfl)
        | 2, ht => cases ht; exact (show Tryd.prog.wantsStandIn 22 = false by kernel_rfl)
        | 3, ht => cases ht; exact (show Tryd.prog.wantsStandIn 3 = false by kernel_rfl)
        | 4, ht => cases ht; exact (show Tryd.prog.wantsStandIn 4 = false by kernel_rfl)
        | 5, ht => cases ht; exact (show Tryd.prog.wantsStandIn 66 = false by kernel_rfl)
        | _ + 6, ht => simp at ht⟩)
    (by kernel_rfl)
#print axioms diskWholeUpto_card
end Go.Proofs.YtjcchjgkkplamaaDoor
