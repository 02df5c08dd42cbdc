/- Proved: the law WalTorn in its second form: for any acts, act, numbers and kept numbers the law returns true, and its arguments read behind the call as before: of a Save that is cut off some of its first records are there. Conditions: the arguments are of bulk at most 1048576; the package-level variables errors.errorType, internal/strconv.uint64pow10, math/bits.deBruijn32tab and deBruijn64tab hold what the program's own text lays (the card ties it). -/
import Derived.Test.YtajapgjemefoiaaGreatDoorWTorn
import Derived.Test.YtajapgjemefoiaaGreatDoorGi
import Derived.Test.YtajapgjemefoiaaGreatDoorGb
import Derived.Test.YtajapgjemefoiaaGreatDoorTie
import Derived.Test.YtajapgjemefoiaaGreatDoorCards
import Derived.SevenTiedAt
import Derived.Deep.DeepHandedRow
set_option linter.unusedVariables false
set_option maxRecDepth 100000
namespace Go.Proofs.YtajapgjemefoiaaGreatDoor
open Go.ChangeShapes Go.WideShapes Go.RowKit Go.SW
theorem walTornUpto_params : Tryz.f6.params = #[41, 47, 3, 3, 45] := by kernel_rfl
theorem walTornUpto_results : Tryz.f6.resultTypes = #[4] := by kernel_rfl
theorem walTornUpto_reads (os : Os) {H : Type} (enc : TypeId × Value → H) : ∃ places, DataW.whole enc Tryz.prog ((laidWorldW os).forCall (fun _ _ => 0) ⟨#[], #[.slice none 0 0, .agg #[.int .i64 0, .int .i64 0, .int .i64 0, .slice none 0 0, .slice none 0 0, .string (bs []), .slice none 0 0], .int .i64 0, .int .i64 0, .slice none 0 0], []⟩).memory Tryz.f6.params.toList Rows.walTornSpec.vars false (#[.slice none 0 0, .agg #[.int .i64 0, .int .i64 0, .int .i64 0, .slice none 0 0, .slice none 0 0, .string (bs []), .slice none 0 0], .int .i64 0, .int .i64 0, .slice none 0 0] : Array Value).toList 8 = some ([.nil, .agg [.lit (.int .i64 0), .lit (.int .i64 0), .lit (.int .i64 0), .nil, .nil, .lit (.string []), .nil], .lit (.int .i64 0), .lit (.int .i64 0), .nil], [], places) :=
  ⟨[], by kernel_rfl⟩
theorem walTornUpto_lifted (os : Os) (started : os.Started) (H : Type) (enc : TypeId × Value → H) (F : Stop.Interp) :
    ReturnsInHanded {} Tryz.checked os 6 .any ((Rows.OpenSpec.upto Rows.walTornSpec).preRow enc Tryz.prog Tryz.f6 Rows.walTornUptoRow.domain false Rows.walTornUptoRow.laid) (((Rows.OpenSpec.upto Rows.walTornSpec).at F).post enc Tryz.prog Tryz.f6 false true false false) := by
  obtain ⟨places, hx⟩ := walTornUpto_reads os enc
  refine returnsInHanded_of_row (C := Tryz.checked) (s := Rows.OpenSpec.upto Rows.walTornSpec) ownP started (by kernel_rfl) Tryz.func6
    (witness_row_at (enc := enc) (C := Tryz.checked) false (laidWorldW os) #[.slice none 0 0, .agg #[.int .i64 0, .int .i64 0, .int .i64 0, .slice none 0 0, .slice none 0 0, .string (bs []), .slice none 0 0], .int .i64 0, .int .i64 0, .slice none 0 0] rfl (by kernel_rfl) (by kernel_rfl) (by kernel_rfl)
      (OpenSpec.preRow_of_cond 8 hx (by kernel_rfl) (fun k hk => by cases hk; kernel_rfl) (by kernel_rfl) (laidWorldW_met os _))) ?_
  intro W base args ds gs before hval0 hW _ hcond _ hL _ _
  have hval : ∀ (j : Nat) t v, Tryz.f6.params[j]? = some t → args[j]? = some v → Value.okWide Tryz.prog W .any base t v := hval0
  have hW' := hW
  obtain ⟨p, q, hA0, hV0, rfl, hfz, hnd⟩ := hW
  have hA : DataW.TrodAll enc Tryz.prog W 0 (fun _ => true) true Tryz.f6.params.toList args.toList ds p := hA0
  have hV : DataW.TrodVars enc Tryz.prog W (fun _ => true) [] gs q := hV0
  rw [walTornUpto_params] at hA hval
  obtain ⟨v0, vs0, d0, ds0, p0, q0, hq0, rfl, rfl, h0, r0⟩ := trodAll_cons hA
  obtain ⟨v1, vs1, d1, ds1, p1, q1, hq1, rfl, rfl, h1, r1⟩ := trodAll_cons r0
  obtain ⟨v2, vs2, d2, ds2, p2, q2, hq2, rfl, rfl, h2, r2⟩ := trodAll_cons r1
  obtain ⟨v3, vs3, d3, ds3, p3, q3, hq3, rfl, rfl, h3, r3⟩ := trodAll_cons r2
  obtain ⟨v4, vs4, d4, ds4, p4, q4, hq4, rfl, rfl, h4, r4⟩ := trodAll_cons r3
  obtain ⟨hqe, rfl, rfl⟩ := trodAll_nil r4
  obtain rfl : args = #[v0, v1, v2, v3, v4] := by
    apply Array.toList_inj.1
    rw [hq0, hq1, hq2, hq3, hq4, hqe]
  obtain ⟨rfl, rfl⟩ : gs = [] ∧ q = [] := by
    cases gs with
    | nil => exact ⟨rfl, hV⟩
    | cons g r => exact absurd hV (by intro h; cases h)
  have hG := handle_of_laidW hL
  have hbk := of_decide_eq_true (hcond _ rfl)
  simp only [Rows.uptoBulkAll, List.append_nil, List.cons_append, List.nil_append] at hbk
  obtain ⟨ac, kR, kok, ksum⟩ := open_acts19 (hval 0 _ _ rfl rfl) h0
  obtain ⟨a, rfl, ka, kas⟩ := open_act19V (hval 1 _ _ rfl rfl) h1
  obtain ⟨aq, rfl, _, _⟩ := open_intV (hval 2 _ _ rfl rfl) h2
  obtain ⟨pt, rfl, _, _⟩ := open_intV (hval 3 _ _ rfl rfl) h3
  obtain ⟨ks, kk, _⟩ := open_numsVU (hval 4 _ _ rfl rfl) h4
  refine (WalTorn_ct v0 ac a.dv a.n a.m a.vl a.L a.vk a.nm a.vb aq pt v4 ks W hG kR kok (by omega) kk ka.row ka.rb ka.ok ka.n ka.m).mono ?_
  rintro v W' ⟨rfl, hF⟩
  exact post_true (s := Rows.walTornSpec) rfl walTornUpto_results (by kernel_rfl) hW' rfl hF.below
theorem walTornUpto_said : Rows.WalTornUptoSaid :=
  OpenClaim.holds_of_cond 6 Tryz.f6 rfl rfl rfl rfl rfl rfl rfl ⟨rfl, rfl, rfl, rfl, rfl⟩ rfl rfl rfl rfl rfl (by kernel_rfl) Tryz.func6 (by kernel_rfl)
    (of_decide_eq_true (by kernel_rfl)) (by unfold Func.isWrapper; rw [if_neg (of_decide_eq_false (by kernel_rfl))]; exact ⟨rfl, rfl⟩)
    (fun os started H enc _ F => by rw [OpenClaim.pre_eq_preRow]; exact walTornUpto_lifted os started H enc F)
theorem walTornUpto_card : Rows.WalTornUptoCardSaid :=
  Claim7.holds_tied_plain_at .later [] _ _ _ _
    walTornUpto_said (fun _ h => by cases h) (by kernel_rfl) (fun _ h => by cases h) walTornUpto_row_tie rfl ⟨rfl, rfl⟩ (by kernel_rfl) rfl
    (fun f fn hf hfn => by
      obtain rfl : f = 6 := Option.some.inj ((show Tryz.prog.funcNamed "muntin/muntinlaw19.WalTorn" = some 6 by kernel_rfl).symm.trans hf) |>.symm
      obtain rfl : fn = Tryz.f6 := (Option.some.inj (Tryz.func6.symm.trans hfn)).symm
      exact ⟨by kernel_rfl, fun j t ht => by
        rw [walTornUpto_params] at ht
        match j, ht with
        | 0, ht => cases ht; exact (show Tryz.prog.wantsStandIn 41 = false by kernel_rfl)
        | 1, ht => cases ht; exact (show Tryz.prog.wantsStandIn 47 = false by kernel_rfl)
        | 2, ht => cases ht; exact (show Tryz.prog.wantsStandIn 3 = false by kernel_rfl)
        | 3, ht => cases ht; exact (show Tryz.prog.wantsStandIn 3 = false by kernel_rfl)
        | 4, ht => cases ht; exact (show Tryz.prog.wantsStandIn 45 = false by kernel_rfl)
        | _ + 5, ht => simp at ht⟩)
    (by kernel_rfl)
#print axioms walTornUpto_card
end Go.Proofs.YtajapgjemefoiaaGreatDoor
