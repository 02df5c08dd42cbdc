/- Proved: the law VaultCodes (muntinlaw20): for every snapshot and any bytes the law returns true, and its arguments read behind the call as before: the program's Bytes, Read and Split answer as the document's, leave what they are lent, and what they answer is its owner's. Condition: the package-level variable errors.errorType holds what the program's own text lays (the card ties it). -/
import Derived.Test.YtjcchjgkkplamaaDoorCodes
import Derived.Test.YtjcchjgkkplamaaDoorLawF
import Derived.Test.YtjcchjgkkplamaaDoorTie
import Derived.Test.YtjcchjgkkplamaaDoorCards
import Derived.SevenTiedAt
set_option linter.unusedVariables false
set_option maxRecDepth 100000
namespace Go.Proofs.YtjcchjgkkplamaaDoor
open Go.ChangeShapes Go.WideShapes Go.RowKit Go.SW
section
variable {H : Type} {enc : TypeId × Value → H} {w : World} {base : Nat} {spare : Nat → Bool} {held : Bool}
theorem open_bytesV {r : Reach} {b0 : Nat} {v : Value} {d : DataW H} {ps : List MemPlace} (hval : Value.okWide Tryd.prog w r b0 22 v) (h : DataW.Trod enc Tryd.prog w base spare held 22 v d ps) : ∃ l : List UInt8, RB w.cell? v l ∧ ((d.weights Tryd.prog 22).all (· ≤ reachBytes) = true → l.length ≤ reachBytes) := by
  obtain ⟨fuel, h⟩ := h
  have hv1 : v.cells.toList = [v] := by
    cases v with
    | agg cs => simp [Value.okWide, uBytes, Cell.okWide, Cell.ok] at hval
    | _ => rfl
  obtain ⟨v', l, e, h1, h2⟩ := open_bytes uBytes uU8 cU8 zU8 h
  rw [hv1] at e
  cases e
  exact ⟨l, h1, h2⟩
end
theorem codes_params : Tryd.f3.params = #[24, 22] := by kernel_rfl
theorem codes_results : Tryd.f3.resultTypes = #[4] := by kernel_rfl
theorem codes_lifted (os : Os) (started : os.Started) (H : Type) (enc : TypeId × Value → H) :
    ReturnsInHanded {} Tryd.checked os 3 .any (fun w args => (Rows.vaultCodesSpec.pre enc Tryd.prog Tryd.f3 [] false w args ∧ laidMetH Tryd.prog laidL w) ∧ sizedMet enc Tryd.prog Tryd.f3 (OpenSpec.ofChange Rows.vaultCodesSpec) false w args)
      (Rows.vaultCodesSpec.post enc Tryd.prog Tryd.f3 false true false false) := by
  refine returnsInHanded_of_change_and (C := Tryd.checked) (X := fun w _ => laidMetH Tryd.prog laidL w) (fun _ _ _ hh h => h.of_heap hh) ownP started (by kernel_rfl) Tryd.func3
    (ChangeSpec.witness_at (enc := enc) (C := Tryd.checked) (os := os) (X := fun w _ => laidMetH Tryd.prog laidL w) false (laidWorld os) #[.agg #[.int .i64 0, .int .i64 0, .slice none 0 0, .slice none 0 0], .slice none 0 0] 8 rfl (by kernel_rfl) (by kernel_rfl) (by kernel_rfl) (by kernel_rfl) (by kernel_rfl) (laidWorld_met os _)) ?_
  intro W base args ds gs before hval0 hW _ hz hL _
  have hval : ∀ (j : Nat) t v, Tryd.f3.params[j]? = some t → args[j]? = some v → Value.okWide Tryd.prog W .any base t v := hval0
  have hW' := hW
  obtain ⟨p, q, hA0, hV0, rfl, hfz, hnd⟩ := hW
  have hA : DataW.TrodAll enc Tryd.prog W 0 (fun _ => true) true Tryd.f3.params.toList args.toList ds p := hA0
  have hV : DataW.TrodVars enc Tryd.prog W (fun _ => true) [] gs q := hV0
  have hz' : (DataW.weightsEach Tryd.prog (Tryd.f3.params.toList ++ []) (ds ++ gs)).all (· ≤ reachBytes) = true := hz
  rw [codes_params] at hA hval hz'
  obtain ⟨v0, v1, d0, d1, p0, p1, rfl, rfl, rfl, h0, h1⟩ := trodAll_two hA
  obtain ⟨rfl, rfl⟩ : gs = [] ∧ q = [] := by
    cases gs with
    | nil => exact ⟨rfl, hV⟩
    | cons g r => exact absurd hV (by intro h; cases h)
  obtain ⟨i, t, va, vb, cf, dt, rfl, hi, ht, hc, hd, hs⟩ := open_snapV (hval 0 _ _ rfl rfl) h0
  obtain ⟨b, kb, hb2⟩ := open_bytesV (hval 1 _ _ rfl rfl) h1
  have hG := handle_of_laid hL
  simp only [List.append_nil, DataW.weightsEach, List.all_append, Bool.and_eq_true] at hz'
  have l1 := hs hz'.1
  have l2 := hb2 (by simpa using hz'.2)
  have hr : reachBytes ≤ 140737488355328 := by decide
  refine (VaultCodes_ct i t va vb v1 cf dt b W hG hc hd kb hi ht (Nat.le_trans l1.1 hr) (Nat.le_trans l1.2 hr) (Nat.le_trans l2 hr)).mono ?_
  rintro v W' ⟨rfl, hF⟩
  exact post_true rfl codes_results (by kernel_rfl) hW' rfl hF.below
theorem vaultCodes_said : Rows.VaultCodesSaid :=
  OpenClaim.holds_of_wide 3 Tryd.f3 rfl rfl rfl rfl rfl rfl rfl ⟨rfl, rfl, rfl, rfl, rfl⟩ rfl rfl rfl rfl rfl (by kernel_rfl) Tryd.func3 (by kernel_rfl)
    (of_decide_eq_true (by kernel_rfl)) (by unfold Func.isWrapper; rw [if_neg (of_decide_eq_false (by kernel_rfl))]; exact ⟨rfl, rfl⟩)
    (fun os started H enc _ => codes_lifted os started H enc)
theorem vaultCodes_card : Rows.VaultCodesCardSaid :=
  Claim7.holds_tied_plain_at .later [] [.handle] true (true, "ac366defa9b34b831fb7d1281a47913a1268124869032afabca0ce568c4382a7") true
    vaultCodes_said (fun _ h => by cases h) (by kernel_rfl) (fun _ h => by cases h) vaultCodes_row_tie rfl ⟨rfl, rfl⟩ (by kernel_rfl) rfl
    (fun f fn hf hfn => by
      obtain rfl : f = 3 := Option.some.inj ((show Tryd.prog.funcNamed "muntin/muntinlaw20.VaultCodes" = some 3 by kernel_rfl).symm.trans hf) |>.symm
      obtain rfl : fn = Tryd.f3 := (Option.some.inj (Tryd.func3.symm.trans hfn)).symm
      exact ⟨by kernel_rfl, fun j t ht => by
        rw [codes_params] at ht
        match j, ht with
        | 0, ht => cases ht; exact (show Tryd.prog.wantsStandIn 24 = false by kernel_rfl)
        | 1, ht => cases ht; exact (show Tryd.prog.wantsStandIn 22 = false by kernel_rfl)
        | _ + 2, ht => simp at ht⟩)
    (by kernel_rfl)
#print axioms vaultCodes_card
end Go.Proofs.YtjcchjgkkplamaaDoor
