/- Proved: the law VaultCollects: for any row of parts the law returns true, and its argument reads behind the call as before: part by part the program's inbox answers as the document's, leaves what it is lent, and what it answers is its owner's. Condition: the package-level variable errors.errorType holds what the program's own text lays (the card ties it). -/
import Derived.Test.YtjcchjgkkplamaaDoorCollects
import Derived.Test.YtjcchjgkkplamaaDoorLawG
import Derived.Test.YtjcchjgkkplamaaDoorTie
import Derived.Test.YtjcchjgkkplamaaDoorCards
import Derived.SevenTiedAt
set_option linter.unusedVariables false
set_option maxRecDepth 100000
namespace Go.Proofs.YtjcchjgkkplamaaDoor
open Go.ChangeShapes Go.WideShapes Go.RowKit Go.SW
theorem uParts : Tryd.prog.underlying 33 = some (.slice 48) := by kernel_rfl
theorem uPart : Tryd.prog.underlying 48 = some (.struct (Tryd.prog.fieldsOf 48)) := by kernel_rfl
theorem fPart : (Tryd.prog.fieldsOf 48).toList.map (fun f => (f.type, f.offset)) = [(3, 0), (3, 1), (3, 2), (3, 3), (22, 4)] := by kernel_rfl
theorem cPart : Tryd.prog.cellsOf 48 = 5 := by kernel_rfl
section
variable {H : Type} {enc : TypeId × Value → H} {w : World} {base : Nat} {spare : Nat → Bool} {held : Bool}
theorem open_part {fuel : Nat} {cs : List Value} {x : DataW H × List MemPlace} (h : DataW.trod enc Tryd.prog w base spare held fuel 48 cs = some x) :
    ∃ q : Prt × Value, cs = prtC q ∧ RB w.cell? q.2 q.1.bytes ∧ q.1.I64 ∧ ((x.1.weights Tryd.prog 48).all (· ≤ reachBytes) = true → q.1.bytes.length ≤ reachBytes) := by
  obtain ⟨xs, n, rfl, hl, hxl, hp⟩ := struct_parts uPart _ fPart h
  rw [cPart] at hl
  match cs, hl with
  | [c0, c1, c2, c3, c4], _ =>
  match xs, hxl with
  | [x0, x1, x2, x3, x4], _ =>
  have h0 := hp 0 _ _ rfl
  have h1 := hp 1 _ _ rfl
  have h2 := hp 2 _ _ rfl
  have h3 := hp 3 _ _ rfl
  have h4 := hp 4 _ _ rfl
  simp only [cInt, cBytes, List.drop_zero, List.drop_succ_cons, List.take_succ_cons, List.take_zero, List.getElem?_cons_zero, List.getElem?_cons_succ] at h0 h1 h2 h3 h4
  obtain ⟨i, e0, rfl, w0⟩ := DataW.trod_int uInt h0
  obtain ⟨t, e1, rfl, w1⟩ := DataW.trod_int uInt h1
  obtain ⟨k, e2, rfl, w2⟩ := DataW.trod_int uInt h2
  obtain ⟨m, e3, rfl, w3⟩ := DataW.trod_int uInt h3
  obtain ⟨va, b, e4, r4, s4⟩ := open_bytes uBytes uU8 cU8 zU8 h4
  cases e0; cases e1; cases e2; cases e3; cases e4
  refine ⟨(⟨i, t, k, m, b⟩, _), rfl, r4, ⟨wf_i64 w0, wf_i64 w1, wf_i64 w2, wf_i64 w3⟩, fun hall => ?_⟩
  have hfs : ((Tryd.prog.fieldsOf 48).toList.map (·.type)) = [3, 3, 3, 3, 22] := by kernel_rfl
  simp only [DataW.weights, uPart, hfs, List.map_cons, List.map_nil, DataW.weightsEach, List.nil_append, List.append_nil, List.all_append, Bool.and_eq_true] at hall
  exact s4 hall
theorem open_partsV {r : Reach} {b0 : Nat} {v : Value} {d : DataW H} {pl : List MemPlace} (hval : Value.okWide Tryd.prog w r b0 33 v) (h : DataW.Trod enc Tryd.prog w base spare held 33 v d pl) :
    ∃ ps : List (Prt × Value), Row w.cell? v 5 ps.length (rowC prtC ps) ∧ ∀ q ∈ ps, RB w.cell? q.2 q.1.bytes ∧ q.1.I64 ∧ ((d.weights Tryd.prog 33).all (· ≤ reachBytes) = true → q.1.bytes.length ≤ reachBytes) := by
  obtain ⟨fuel, h⟩ := h
  obtain ⟨v', L, e, hR, _, hL, _⟩ := open_rowG uParts cPart h
  rw [one_cell uParts hval] at e
  cases e
  obtain ⟨ps, rfl, hps⟩ := list_choose (f := prtC) (Q := fun q => RB w.cell? q.2 q.1.bytes ∧ q.1.I64 ∧ ((d.weights Tryd.prog 33).all (· ≤ reachBytes) = true → q.1.bytes.length ≤ reachBytes)) L (fun c hc => by
    obtain ⟨f', y, hy, hw⟩ := hL c hc
    obtain ⟨q, e1, e2, e3, e4⟩ := open_part hy
    exact ⟨q, e1, e2, e3, fun hall => e4 (hw hall)⟩)
  exact ⟨ps, by rw [List.length_map] at hR; exact hR, hps⟩
end
theorem vaultCollects_params : Tryd.f4.params = #[33] := by kernel_rfl
theorem vaultCollects_results : Tryd.f4.resultTypes = #[4] := by kernel_rfl
theorem vaultCollects_lifted (os : Os) (started : os.Started) (H : Type) (enc : TypeId × Value → H) :
    ReturnsInHanded {} Tryd.checked os 4 .any (fun w args => (Rows.vaultCollectsSpec.pre enc Tryd.prog Tryd.f4 [] false w args ∧ laidMetH Tryd.prog laidL w) ∧ sizedMet enc Tryd.prog Tryd.f4 (OpenSpec.ofChange Rows.vaultCollectsSpec) false w args)
      (Rows.vaultCollectsSpec.post enc Tryd.prog Tryd.f4 false true false false) := by
  refine returnsInHanded_of_change_and (C := Tryd.checked) (X := fun w _ => laidMetH Tryd.prog laidL w) (fun _ _ _ hh h => h.of_heap hh) ownP started (by kernel_rfl) Tryd.func4
    (ChangeSpec.witness_at (enc := enc) (C := Tryd.checked) (os := os) (X := fun w _ => laidMetH Tryd.prog laidL w) false (laidWorld os) #[.slice none 0 0] 8 rfl (by kernel_rfl) (by kernel_rfl) (by kernel_rfl) (by kernel_rfl) (by kernel_rfl) (laidWorld_met os _)) ?_
  intro W base args ds gs before hval0 hW _ hz hL _
  have hval : ∀ (j : Nat) t v, Tryd.f4.params[j]? = some t → args[j]? = some v → Value.okWide Tryd.prog W .any base t v := hval0
  have hW' := hW
  obtain ⟨p, q, hA0, hV0, rfl, hfz, hnd⟩ := hW
  have hA : DataW.TrodAll enc Tryd.prog W 0 (fun _ => true) true Tryd.f4.params.toList args.toList ds p := hA0
  have hV : DataW.TrodVars enc Tryd.prog W (fun _ => true) [] gs q := hV0
  have hz' : (DataW.weightsEach Tryd.prog (Tryd.f4.params.toList ++ []) (ds ++ gs)).all (· ≤ reachBytes) = true := hz
  rw [vaultCollects_params] at hA hval hz'
  obtain ⟨v0, d0, rfl, rfl, h0⟩ := trodAll_one hA
  obtain ⟨rfl, rfl⟩ : gs = [] ∧ q = [] := by
    cases gs with
    | nil => exact ⟨rfl, hV⟩
    | cons g r => exact absurd hV (by intro h; cases h)
  have hG := handle_of_laid hL
  simp only [List.append_nil, DataW.weightsEach, List.all_append, List.all_nil, Bool.and_eq_true, Bool.and_true] at hz'
  have hr : reachBytes ≤ 140737488355328 := by decide
  obtain ⟨ps, kP, kps⟩ := open_partsV (hval 0 _ _ rfl rfl) h0
  refine (VaultCollects_ct v0 ps W hG kP (fun q hq => ⟨(kps q hq).1, (kps q hq).2.1, Nat.le_trans ((kps q hq).2.2 hz') hr⟩)).mono ?_
  rintro v W' ⟨rfl, hF⟩
  exact post_true rfl vaultCollects_results (by kernel_rfl) hW' rfl hF.below
theorem vaultCollects_said : Rows.VaultCollectsSaid :=
  OpenClaim.holds_of_wide 4 Tryd.f4 rfl rfl rfl rfl rfl rfl rfl ⟨rfl, rfl, rfl, rfl, rfl⟩ rfl rfl rfl rfl rfl (by kernel_rfl) Tryd.func4 (by kernel_rfl)
    (of_decide_eq_true (by kernel_rfl)) (by unfold Func.isWrapper; rw [if_neg (of_decide_eq_false (by kernel_rfl))]; exact ⟨rfl, rfl⟩)
    (fun os started H enc _ => vaultCollects_lifted os started H enc)
theorem vaultCollects_card : Rows.VaultCollectsCardSaid :=
  Claim7.holds_tied_plain_at .later [] [.handle] true (true, "ac366defa9b34b831fb7d1281a47913a1268124869032afabca0ce568c4382a7") true
    vaultCollects_said (fun _ h => by cases h) (by kernel_rfl) (fun _ h => by cases h) vaultCollects_row_tie rfl ⟨rfl, rfl⟩ (by kernel_rfl) rfl
    (fun f fn hf hfn => by
      obtain rfl : f = 4 := Option.some.inj ((show Tryd.prog.funcNamed "muntin/muntinlaw20.VaultCollects" = some 4 by kernel_rfl).symm.trans hf) |>.symm
      obtain rfl : fn = Tryd.f4 := (Option.some.inj (Tryd.func4.symm.trans hfn)).symm
      exact ⟨by kernel_rfl, fun j t ht => by
        rw [vaultCollects_params] at ht
        match j, ht with
        | 0, ht => cases ht; exact (show Tryd.prog.wantsStandIn 33 = false by kernel_rfl)
        | _ + 1, ht => simp at ht⟩)
    (by kernel_rfl)
#print axioms vaultCollects_card
end Go.Proofs.YtjcchjgkkplamaaDoor
