/- Proved: the law WalOpens in its second form: for any names of files and any bytes in them the law returns true, and its arguments read behind the call as before: which files are a log, and which log. Conditions: the arguments are of bulk at most 1048576; the package-level variables errors.errorType, internal/strconv.uint64pow10, math/bits.deBruijn32tab and deBruijn64tab hold what the program's own text lays (the card ties it). -/
import Derived.Test.YtajapgjemefoiaaGreatDoorGh
import Derived.Test.YtajapgjemefoiaaGreatDoorGb
import Derived.Test.YtajapgjemefoiaaGreatDoorTie
import Derived.Test.YtajapgjemefoiaaGreatDoorCards
import Derived.SevenTiedAt
import Derived.Deep.DeepHandedRow
set_option linter.unusedVariables false
set_option maxRecDepth 100000
namespace Go.Proofs.YtajapgjemefoiaaGreatDoor
open Go.ChangeShapes Go.WideShapes Go.RowKit Go.SW
theorem walOpensUpto_params : Tryz.f3.params = #[22, 23] := by kernel_rfl
theorem walOpensUpto_results : Tryz.f3.resultTypes = #[4] := by kernel_rfl
theorem walOpensUpto_reads (os : Os) {H : Type} (enc : TypeId × Value → H) : ∃ places, DataW.whole enc Tryz.prog ((laidWorldW os).forCall (fun _ _ => 0) ⟨#[], #[.slice none 0 0, .slice none 0 0], []⟩).memory Tryz.f3.params.toList Rows.walOpensSpec.vars false (#[.slice none 0 0, .slice none 0 0] : Array Value).toList 8 = some ([.nil, .nil], [], places) :=
  ⟨[], by kernel_rfl⟩
theorem walOpensUpto_lifted (os : Os) (started : os.Started) (H : Type) (enc : TypeId × Value → H) (F : Stop.Interp) :
    ReturnsInHanded {} Tryz.checked os 3 .any ((Rows.OpenSpec.upto Rows.walOpensSpec).preRow enc Tryz.prog Tryz.f3 Rows.walOpensUptoRow.domain false Rows.walOpensUptoRow.laid) (((Rows.OpenSpec.upto Rows.walOpensSpec).at F).post enc Tryz.prog Tryz.f3 false true false false) := by
  obtain ⟨places, hx⟩ := walOpensUpto_reads os enc
  refine returnsInHanded_of_row (C := Tryz.checked) (s := Rows.OpenSpec.upto Rows.walOpensSpec) ownP started (by kernel_rfl) Tryz.func3
    (witness_row_at (enc := enc) (C := Tryz.checked) false (laidWorldW os) #[.slice none 0 0, .slice none 0 0] rfl (by kernel_rfl) (by kernel_rfl) (by kernel_rfl)
      (OpenSpec.preRow_of_cond 8 hx (by kernel_rfl) (fun k hk => by cases hk; kernel_rfl) (by kernel_rfl) (laidWorldW_met os _))) ?_
  intro W base args ds gs before hval0 hW _ hcond _ hL _ _
  have hval : ∀ (j : Nat) t v, Tryz.f3.params[j]? = some t → args[j]? = some v → Value.okWide Tryz.prog W .any base t v := hval0
  have hW' := hW
  obtain ⟨p, q, hA0, hV0, rfl, hfz, hnd⟩ := hW
  have hA : DataW.TrodAll enc Tryz.prog W 0 (fun _ => true) true Tryz.f3.params.toList args.toList ds p := hA0
  have hV : DataW.TrodVars enc Tryz.prog W (fun _ => true) [] gs q := hV0
  rw [walOpensUpto_params] at hA hval
  obtain ⟨v0, vs0, d0, ds0, p0, q0, hq0, rfl, rfl, h0, r0⟩ := trodAll_cons hA
  obtain ⟨v1, vs1, d1, ds1, p1, q1, hq1, rfl, rfl, h1, r1⟩ := trodAll_cons r0
  obtain ⟨hqe, rfl, rfl⟩ := trodAll_nil r1
  obtain rfl : args = #[v0, v1] := by
    apply Array.toList_inj.1
    rw [hq0, hq1, hqe]
  obtain ⟨rfl, rfl⟩ : gs = [] ∧ q = [] := by
    cases gs with
    | nil => exact ⟨rfl, hV⟩
    | cons g r => exact absurd hV (by intro h; cases h)
  have hG := handle_of_laidW hL
  have hbk := of_decide_eq_true (hcond _ rfl)
  simp only [Rows.uptoBulkAll, List.append_nil, List.cons_append, List.nil_append] at hbk
  obtain ⟨ns, kA, knm⟩ := open_strsV (hval 0 _ _ rfl rfl) h0
  obtain ⟨rs, kB, krb, ksum⟩ := open_bssV (hval 1 _ _ rfl rfl) h1
  obtain ⟨hT, hsz⟩ := tabW_of hL
  refine (WalOpens_ct v0 v1 ns rs W hG hT hsz kA kB krb (fun s hs => by have := knm s hs; omega) (by omega)).mono ?_
  rintro v W' ⟨rfl, hF⟩
  exact post_true (s := Rows.walOpensSpec) rfl walOpensUpto_results (by kernel_rfl) hW' rfl hF.below
theorem walOpensUpto_said : Rows.WalOpensUptoSaid :=
  OpenClaim.holds_of_cond 3 Tryz.f3 rfl rfl rfl rfl rfl rfl rfl ⟨rfl, rfl, rfl, rfl, rfl⟩ rfl rfl rfl rfl rfl (by kernel_rfl) Tryz.func3 (by kernel_rfl)
    (of_decide_eq_true (by kernel_rfl)) (by unfold Func.isWrapper; rw [if_neg (of_decide_eq_false (by kernel_rfl))]; exact ⟨rfl, rfl⟩)
    (fun os started H enc _ F => by rw [OpenClaim.pre_eq_preRow]; exact walOpensUpto_lifted os started H enc F)
theorem walOpensUpto_card : Rows.WalOpensUptoCardSaid :=
  Claim7.holds_tied_plain_at .later [] _ _ _ _
    walOpensUpto_said (fun _ h => by cases h) (by kernel_rfl) (fun _ h => by cases h) walOpensUpto_row_tie rfl ⟨rfl, rfl⟩ (by kernel_rfl) rfl
    (fun f fn hf hfn => by
      obtain rfl : f = 3 := Option.some.inj ((show Tryz.prog.funcNamed "muntin/muntinlaw19.WalOpens" = some 3 by kernel_rfl).symm.trans hf) |>.symm
      obtain rfl : fn = Tryz.f3 := (Option.some.inj (Tryz.func3.symm.trans hfn)).symm
      exact ⟨by kernel_rfl, fun j t ht => by
        rw [walOpensUpto_params] at ht
        match j, ht with
        | 0, ht => cases ht; exact (show Tryz.prog.wantsStandIn 22 = false by kernel_rfl)
        | 1, ht => cases ht; exact (show Tryz.prog.wantsStandIn 23 = false by kernel_rfl)
        | _ + 2, ht => simp at ht⟩)
    (by kernel_rfl)
#print axioms walOpensUpto_card
end Go.Proofs.YtajapgjemefoiaaGreatDoor
