/- Proved: the law VaultWhole (muntinlaw20): for every two snapshots and any row of whole numbers the law returns true, and its arguments read behind the call as before: a snapshot that was taken apart comes together, in whatever order its parts come, with parts of an older one between. Condition: the package-level variable errors.errorType holds what the program's own text lays (the card ties it). -/
import Derived.Test.YtjcchjgkkplamaaDoorWhole
import Derived.Test.YtjcchjgkkplamaaDoorLawF
import Derived.Test.YtjcchjgkkplamaaDoorTie
import Derived.Test.YtjcchjgkkplamaaDoorCards
import Derived.SevenTiedAt
set_option linter.unusedVariables false
set_option maxRecDepth 100000
namespace Go.Proofs.YtjcchjgkkplamaaDoor
open Go.ChangeShapes Go.WideShapes Go.RowKit Go.SW
theorem uInts : Tryd.prog.underlying 66 = some (.slice 3) := by kernel_rfl
section
variable {H : Type} {enc : TypeId × Value → H} {w : World} {base : Nat} {spare : Nat → Bool} {held : Bool}
theorem open_numsV {r : Reach} {b0 : Nat} {v : Value} {d : DataW H} {ps : List MemPlace} (hval : Value.okWide Tryd.prog w r b0 66 v) (h : DataW.Trod enc Tryd.prog w base spare held 66 v d ps) : ∃ zs : List Int, Row w.cell? v 1 zs.length (iv zs) := by
  obtain ⟨fuel, h⟩ := h
  have hv1 : v.cells.toList = [v] := by
    cases v with
    | agg cs => simp [Value.okWide, uInts, Cell.okWide, Cell.ok] at hval
    | _ => rfl
  rcases open_ints uInts uInt cInt h with ⟨e, _⟩ | ⟨a, len, cap, zs, e, _, hlc, hm, hlen, _, hcell, hwf⟩
  · rw [hv1] at e
    cases e
    exact ⟨[], Row.nil _ _⟩
  · rw [hv1] at e
    cases e
    have hzl : len ≤ zs.length := by rw [hlen]; split <;> omega
    refine ⟨zs.take len, by simp [iv], some a, cap, by simp [Nat.min_eq_left hzl], by simp [Nat.min_eq_left hzl]; exact hlc, hm, fun j u hu => ⟨a, rfl, ?_⟩⟩
    have hj : j < len := by
      have := (List.getElem?_eq_some_iff.1 hu).1
      simpa [iv, Nat.min_eq_left hzl] using this
    rw [hcell j (by omega), ← hu]
    simp [iv, List.getElem?_take, hj, List.getD_eq_getElem?_getD, List.getElem?_eq_getElem (show j < zs.length by omega)]
end
theorem whole_params : Tryd.f5.params = #[24, 24, 66] := by kernel_rfl
theorem whole_results : Tryd.f5.resultTypes = #[4] := by kernel_rfl
theorem whole_lifted (os : Os) (started : os.Started) (H : Type) (enc : TypeId × Value → H) :
    ReturnsInHanded {} Tryd.checked os 5 .any (fun w args => (Rows.vaultWholeSpec.pre enc Tryd.prog Tryd.f5 [] false w args ∧ laidMetH Tryd.prog laidL w) ∧ sizedMet enc Tryd.prog Tryd.f5 (OpenSpec.ofChange Rows.vaultWholeSpec) false w args)
      (Rows.vaultWholeSpec.post enc Tryd.prog Tryd.f5 false true false false) := by
  refine returnsInHanded_of_change_and (C := Tryd.checked) (X := fun w _ => laidMetH Tryd.prog laidL w) (fun _ _ _ hh h => h.of_heap hh) ownP started (by kernel_rfl) Tryd.func5
    (ChangeSpec.witness_at (enc := enc) (C := Tryd.checked) (os := os) (X := fun w _ => laidMetH Tryd.prog laidL w) false (laidWorld os) #[.agg #[.int .i64 0, .int .i64 0, .slice none 0 0, .slice none 0 0], .agg #[.int .i64 0, .int .i64 0, .slice none 0 0, .slice none 0 0], .slice none 0 0] 8 rfl (by kernel_rfl) (by kernel_rfl) (by kernel_rfl) (by kernel_rfl) (by kernel_rfl) (laidWorld_met os _)) ?_
  intro W base args ds gs before hval0 hW _ hz hL _
  have hval : ∀ (j : Nat) t v, Tryd.f5.params[j]? = some t → args[j]? = some v → Value.okWide Tryd.prog W .any base t v := hval0
  have hW' := hW
  obtain ⟨p, q, hA0, hV0, rfl, hfz, hnd⟩ := hW
  have hA : DataW.TrodAll enc Tryd.prog W 0 (fun _ => true) true Tryd.f5.params.toList args.toList ds p := hA0
  have hV : DataW.TrodVars enc Tryd.prog W (fun _ => true) [] gs q := hV0
  have hz' : (DataW.weightsEach Tryd.prog (Tryd.f5.params.toList ++ []) (ds ++ gs)).all (· ≤ reachBytes) = true := hz
  rw [whole_params] at hA hval hz'
  obtain ⟨v0, v1, v2, d0, d1, d2, p0, p1, p2, rfl, rfl, rfl, h0, h1, h2⟩ := trodAll_three hA
  obtain ⟨rfl, rfl⟩ : gs = [] ∧ q = [] := by
    cases gs with
    | nil => exact ⟨rfl, hV⟩
    | cons g r => exact absurd hV (by intro h; cases h)
  obtain ⟨i, t, va, vb, cf, dt, rfl, hi, ht, hc, hd, hs⟩ := open_snapV (hval 0 _ _ rfl rfl) h0
  obtain ⟨i2, t2, va2, vb2, cf2, dt2, rfl, hi2, ht2, hc2, hd2, hs2⟩ := open_snapV (hval 1 _ _ rfl rfl) h1
  obtain ⟨zs, hO⟩ := open_numsV (hval 2 _ _ rfl rfl) h2
  have hG := handle_of_laid hL
  simp only [List.append_nil, DataW.weightsEach, List.all_append, Bool.and_eq_true] at hz'
  have l1 := (hs hz'.1).2
  have l2 := (hs2 hz'.2.1).2
  have hr : reachBytes ≤ 140737488355328 := by decide
  refine (VaultWhole_ct i t i2 t2 va vb va2 vb2 v2 cf dt cf2 dt2 zs W hG hc hd hc2 hd2 hO hi ht hi2 ht2 (Nat.le_trans l1 hr) (Nat.le_trans l2 hr)).mono ?_
  rintro v W' ⟨rfl, hF⟩
  exact post_true rfl whole_results (by kernel_rfl) hW' rfl hF.below
theorem vaultWhole_said : Rows.VaultWholeSaid :=
  OpenClaim.holds_of_wide 5 Tryd.f5 rfl rfl rfl rfl rfl rfl rfl ⟨rfl, rfl, rfl, rfl, rfl⟩ rfl rfl rfl rfl rfl (by kernel_rfl) Tryd.func5 (by kernel_rfl)
    (of_decide_eq_true (by kernel_rfl)) (by unfold Func.isWrapper; rw [if_neg (of_decide_eq_false (by kernel_rfl))]; exact ⟨rfl, rfl⟩)
    (fun os started H enc _ => whole_lifted os started H enc)
theorem vaultWhole_card : Rows.VaultWholeCardSaid :=
  Claim7.holds_tied_plain_at .later [] [.handle] true (true, "ac366defa9b34b831fb7d1281a47913a1268124869032afabca0ce568c4382a7") true
    vaultWhole_said (fun _ h => by cases h) (by kernel_rfl) (fun _ h => by cases h) vaultWhole_row_tie rfl ⟨rfl, rfl⟩ (by kernel_rfl) rfl
    (fun f fn hf hfn => by
      obtain rfl : f = 5 := Option.some.inj ((show Tryd.prog.funcNamed "muntin/muntinlaw20.VaultWhole" = some 5 by kernel_rfl).symm.trans hf) |>.symm
      obtain rfl : fn = Tryd.f5 := (Option.some.inj (Tryd.func5.symm.trans hfn)).symm
      exact ⟨by kernel_rfl, fun j t ht => by
        rw [whole_params] at ht
        match j, ht with
        | 0, ht => cases ht; exact (show Tryd.prog.wantsStandIn 24 = false by kernel_rfl)
        | 1, ht => cases ht; exact (show Tryd.prog.wantsStandIn 24 = false by kernel_rfl)
        | 2, ht => cases ht; exact (show Tryd.prog.wantsStandIn 66 = false by kernel_rfl)
        | _ + 3, ht => simp at ht⟩)
    (by kernel_rfl)
#print axioms vaultWhole_card
end Go.Proofs.YtjcchjgkkplamaaDoor
