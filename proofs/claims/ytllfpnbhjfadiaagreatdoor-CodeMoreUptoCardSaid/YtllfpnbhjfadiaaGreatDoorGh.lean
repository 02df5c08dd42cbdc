/- Gh: several texts in one. -/
import Derived.Test.YtllfpnbhjfadiaaGreatDoorGg
import Derived.Test.YtllfpnbhjfadiaaGreatDoorGd
import Derived.Test.YtllfpnbhjfadiaaGreatDoorGb
import Derived.Test.YtllfpnbhjfadiaaGreatDoorCards
import Derived.JoinedCond
/- How grammars and expressions among a law's arguments are opened, and their bulk. -/
set_option linter.unusedVariables false
set_option maxRecDepth 100000
namespace Go.Proofs.YtllfpnbhjfadiaaGreatDoor
open Go.ChangeShapes Go.WideShapes Go.RowKit Go.SW
theorem uNode : Tryz.prog.underlying 41 = some (.struct (Tryz.prog.fieldsOf 41)) := by kernel_rfl
theorem fNode : (Tryz.prog.fieldsOf 41).toList.map (fun f => (f.type, f.offset)) = [(3, 0), (9, 1), (38, 2), (39, 6), (3, 7)] := by kernel_rfl
theorem cNode : Tryz.prog.cellsOf 41 = 8 := by kernel_rfl
theorem uNodes : Tryz.prog.underlying 39 = some (.slice 41) := by kernel_rfl
theorem cNodes : Tryz.prog.cellsOf 39 = 1 := by kernel_rfl
theorem uClass : Tryz.prog.underlying 38 = some (.array 4 36) := by kernel_rfl
theorem cClass : Tryz.prog.cellsOf 38 = 4 := by kernel_rfl
theorem uU64 : Tryz.prog.underlying 36 = some (.int .u64) := by kernel_rfl
theorem cU64 : Tryz.prog.cellsOf 36 = 1 := by kernel_rfl
theorem uRule : Tryz.prog.underlying 43 = some (.struct (Tryz.prog.fieldsOf 43)) := by kernel_rfl
theorem fRule : (Tryz.prog.fieldsOf 43).toList.map (fun f => (f.type, f.offset)) = [(9, 0), (41, 1), (3, 9)] := by kernel_rfl
theorem cRule : Tryz.prog.cellsOf 43 = 10 := by kernel_rfl
theorem uRules : Tryz.prog.underlying 22 = some (.slice 43) := by kernel_rfl
theorem cRules : Tryz.prog.cellsOf 22 = 1 := by kernel_rfl
theorem uGram : Tryz.prog.underlying 24 = some (.struct (Tryz.prog.fieldsOf 24)) := by kernel_rfl
theorem fGram : (Tryz.prog.fieldsOf 24).toList.map (fun f => (f.type, f.offset)) = [(22, 0)] := by kernel_rfl
theorem cGram : Tryz.prog.cellsOf 24 = 1 := by kernel_rfl
theorem wf_u64 {n : Int} (h : (Lit.int .u64 n).wf = true) : 0 ≤ n ∧ n ≤ 18446744073709551615 := by
  have e1 : IntKind.u64.min = 0 := by decide
  have e2 : IntKind.u64.max = 18446744073709551615 := by decide
  simp only [Lit.wf, Bool.and_eq_true, decide_eq_true_eq, e1, e2] at h
  exact h
theorem Tv.sizes_sum : ∀ s : List Tv, (s.map Tv.size).sum = Tv.sizes s
  | [] => rfl
  | x :: s => by rw [List.map_cons, List.sum_cons, Tv.sizes, Tv.sizes_sum s]
theorem Rv.sizes_sum : ∀ s : List Rv, (s.map fun r => r.body.size + 1).sum = Rv.sizes s
  | [] => rfl
  | x :: s => by rw [List.map_cons, List.sum_cons, Rv.sizes, Rv.sizes_sum s]
section
variable {H : Type} {enc : TypeId × Value → H} {w : World} {base : Nat} {spare : Nat → Bool} {held : Bool}
theorem open_class {fuel : Nat} {cs : List Value} {x : DataW H × List MemPlace} (h : DataW.trod enc Tryz.prog w base spare held fuel 38 cs = some x) :
    ∃ c : Cl, cs = [.int .u64 ((c.a : Nat) : Int), .int .u64 ((c.b : Nat) : Int), .int .u64 ((c.c : Nat) : Int), .int .u64 ((c.d : Nat) : Int)] ∧ c.Ok := by
  obtain ⟨xs, m, _, rfl, hl, hxl, hp⟩ := DataW.trod_array uClass h
  rw [cClass] at hl
  match cs, hl with
  | [c0, c1, c2, c3], _ =>
  match xs, hxl with
  | [x0, x1, x2, x3], _ =>
  have h0 := hp 0 (by decide)
  have h1 := hp 1 (by decide)
  have h2 := hp 2 (by decide)
  have h3 := hp 3 (by decide)
  simp only [cU64, Nat.mul_one, List.drop_zero, List.drop_succ_cons, List.take_succ_cons, List.take_zero, List.getElem?_cons_zero, List.getElem?_cons_succ] at h0 h1 h2 h3
  obtain ⟨a, e0, rfl, w0⟩ := DataW.trod_int uU64 h0
  obtain ⟨b, e1, rfl, w1⟩ := DataW.trod_int uU64 h1
  obtain ⟨c, e2, rfl, w2⟩ := DataW.trod_int uU64 h2
  obtain ⟨d, e3, rfl, w3⟩ := DataW.trod_int uU64 h3
  cases e0; cases e1; cases e2; cases e3
  have g0 := wf_u64 w0
  have g1 := wf_u64 w1
  have g2 := wf_u64 w2
  have g3 := wf_u64 w3
  refine ⟨⟨a.toNat, b.toNat, c.toNat, d.toNat⟩, ?_, ?_⟩
  · simp only [Int.toNat_of_nonneg g0.1, Int.toNat_of_nonneg g1.1, Int.toNat_of_nonneg g2.1, Int.toNat_of_nonneg g3.1]
  · exact ⟨by show a.toNat < _; omega, by show b.toNat < _; omega, by show c.toNat < _; omega, by show d.toNat < _; omega⟩
theorem open_node (N : Nat) (hN : N ≤ 1048576) : ∀ {fuel : Nat} {cs : List Value} {x : DataW H × List MemPlace}, Rows.uptoBulk x.1 ≤ N → DataW.trod enc Tryz.prog w base spare held fuel 41 cs = some x →
    ∃ t : Tv, cs = tvC t ∧ TvOk w.cell? t ∧ t.size ≤ Rows.uptoBulk x.1 := by
  induction N with
  | zero => intro fuel cs x hb h; have := bk_one x.1; omega
  | succ N ih =>
    intro fuel cs x hb h
    obtain ⟨xs, n, rfl, hl, hxl, hp⟩ := struct_parts uNode _ fNode h
    rw [cNode] at hl
    match cs, hl with
    | [c0, c1, c2, c3, c4, c5, c6, c7], _ =>
    match xs, hxl with
    | [x0, x1, x2, x3, x4], _ =>
    have h0 := hp 0 _ _ rfl
    have h1 := hp 1 _ _ rfl
    have h2 := hp 2 _ _ rfl
    have h3 := hp 3 _ _ rfl
    have h4 := hp 4 _ _ rfl
    simp only [cInt, cStr, cClass, cNodes, List.drop_zero, List.drop_succ_cons, List.take_succ_cons, List.take_zero, List.getElem?_cons_zero, List.getElem?_cons_succ] at h0 h1 h2 h3 h4
    simp only [List.map_cons, List.map_nil, Rows.uptoBulk, Rows.uptoBulkAll] at hb
    obtain ⟨k, e0, rfl, w0⟩ := DataW.trod_int uInt h0
    obtain ⟨t, e1, htl, _⟩ := open_strU uStr h1
    obtain ⟨c, e2, hc⟩ := open_class h2
    obtain ⟨v, L, ys, e3, hR, _, hly, hL, hbk⟩ := open_rowU uNodes cNode h3
    obtain ⟨p, e4, rfl, w4⟩ := DataW.trod_int uInt h4
    obtain ⟨s, rfl, hok, hs⟩ := rows_choose (f := tvC) (Q := TvOk w.cell?) (g := Tv.size) L ys hly (fun i c hi => by
      obtain ⟨f', y, hy, ht⟩ := hL i c hi
      obtain ⟨a, e1, e2, e3⟩ := ih (by omega) (by have := bk_part hy; omega) ht
      exact ⟨y.1, a, hy, e1, e2, e3⟩)
    cases e0; cases e1; cases e2; cases e3; cases e4
    rw [List.length_map] at hR
    obtain ⟨A, cap, rfl, _, _⟩ := hR.form
    refine ⟨.mk k t c A cap s p, rfl, .mk hc hR (by omega) (wf_i64 w0) (wf_i64 w4) hok, ?_⟩
    rw [Tv.sizes_sum] at hs
    rw [Tv.size]
    simp only [List.map_cons, List.map_nil, Rows.uptoBulk, Rows.uptoBulkAll]
    omega
theorem open_rule {fuel : Nat} {cs : List Value} {x : DataW H × List MemPlace} (hB : Rows.uptoBulk x.1 ≤ 1048576) (h : DataW.trod enc Tryz.prog w base spare held fuel 43 cs = some x) :
    ∃ r : Rv, cs = rvC r ∧ RvOk w.cell? r ∧ r.body.size + 1 ≤ Rows.uptoBulk x.1 := by
  obtain ⟨xs, n, rfl, hl, hxl, hp⟩ := struct_parts uRule _ fRule h
  rw [cRule] at hl
  match cs, hl with
  | [c0, c1, c2, c3, c4, c5, c6, c7, c8, c9], _ =>
  match xs, hxl with
  | [x0, x1, x2], _ =>
  have h0 := hp 0 _ _ rfl
  have h1 := hp 1 _ _ rfl
  have h2 := hp 2 _ _ rfl
  simp only [cInt, cStr, cNode, List.drop_zero, List.drop_succ_cons, List.take_succ_cons, List.take_zero, List.getElem?_cons_zero, List.getElem?_cons_succ] at h0 h1 h2
  simp only [List.map_cons, List.map_nil, Rows.uptoBulk, Rows.uptoBulkAll] at hB
  obtain ⟨t, e0, htl, _⟩ := open_strU uStr h0
  obtain ⟨b, e1, hb, hbs⟩ := open_node _ (by omega) (Nat.le_refl _) h1
  obtain ⟨p, e2, rfl, w2⟩ := DataW.trod_int uInt h2
  cases e0; cases e1; cases e2
  refine ⟨⟨t, b, p⟩, rfl, ⟨hb, by show t.length ≤ _; omega, wf_i64 w2⟩, ?_⟩
  simp only [List.map_cons, List.map_nil, Rows.uptoBulk, Rows.uptoBulkAll]
  omega
variable {r : Reach} {b0 : Nat} {v : Value} {d : DataW H} {pl : List MemPlace}
theorem open_gramV (hB : Rows.uptoBulk d ≤ 1048576) (hval : Value.okWide Tryz.prog w r b0 24 v) (h : DataW.Trod enc Tryz.prog w base spare held 24 v d pl) :
    ∃ (A : Option Addr) (cap : Nat) (rs : List Rv), v = .agg #[.slice A rs.length cap] ∧ Row w.cell? (.slice A rs.length cap) 10 rs.length (rowC rvC rs) ∧ RvsOk w.cell? rs ∧ Rv.sizes rs ≤ Rows.uptoBulk d := by
  obtain ⟨fuel, h⟩ := h
  obtain ⟨xs, n, hx, hl, hxl, hp⟩ := struct_parts uGram _ fGram h
  rw [cGram] at hl
  unfold Value.okWide at hval
  rw [uGram] at hval
  obtain ⟨cs, rfl, _, _⟩ := hval
  have ecs : (Value.agg cs).cells.toList = cs.toList := by simp [Value.cells]
  rw [ecs] at hl hp
  obtain ⟨c0, e0⟩ : ∃ c0, cs.toList = [c0] := by
    match cs.toList, hl with
    | [c0], _ => exact ⟨c0, rfl⟩
  match xs, hxl with
  | [x0], _ =>
  have h0 := hp 0 _ _ rfl
  rw [e0] at h0
  simp only [cRules, List.drop_zero, List.take_succ_cons, List.take_zero, List.getElem?_cons_zero] at h0
  obtain ⟨v, L, ys, e3, hR, _, hly, hL, hbk⟩ := open_rowU uRules cRule h0
  have hd : d = .agg [x0.1] := congrArg Prod.fst hx
  rw [hd] at hB ⊢
  simp only [Rows.uptoBulk, Rows.uptoBulkAll] at hB
  obtain ⟨rs, rfl, hok, hs⟩ := rows_choose (f := rvC) (Q := RvOk w.cell?) (g := fun r => r.body.size + 1) L ys hly (fun i c hi => by
    obtain ⟨f', y, hy, ht⟩ := hL i c hi
    obtain ⟨a, e1, e2, e3⟩ := open_rule (by have := bk_part hy; omega) ht
    exact ⟨y.1, a, hy, e1, e2, e3⟩)
  rw [List.length_map] at hR
  obtain ⟨A, cap, rfl, _, _⟩ := hR.form
  cases e3
  refine ⟨A, cap, rs, ?_, hR, hok, ?_⟩
  · congr 1
    exact Array.toList_inj.1 e0
  · rw [Rv.sizes_sum] at hs
    simp only [Rows.uptoBulk, Rows.uptoBulkAll]
    omega
theorem open_nodeV (hB : Rows.uptoBulk d ≤ 1048576) (hval : Value.okWide Tryz.prog w r b0 41 v) (h : DataW.Trod enc Tryz.prog w base spare held 41 v d pl) :
    ∃ t : Tv, v = .agg (tvC t).toArray ∧ TvOk w.cell? t ∧ t.size ≤ Rows.uptoBulk d := by
  obtain ⟨fuel, h⟩ := h
  obtain ⟨t, e, h1, h2⟩ := open_node _ hB (Nat.le_refl _) h
  unfold Value.okWide at hval
  rw [uNode] at hval
  obtain ⟨cs, rfl, _, _⟩ := hval
  refine ⟨t, ?_, h1, h2⟩
  have e9 : cs.toList = tvC t := by simpa [Value.cells] using e
  have : cs = (tvC t).toArray := Array.toList_inj.1 (by rw [e9])
  rw [this]
end
end Go.Proofs.YtllfpnbhjfadiaaGreatDoor
/- What the kernel reckons of the row CodeOnce: closed facts of the dump. -/
set_option maxRecDepth 100000
namespace Go.Proofs.YtllfpnbhjfadiaaGreatDoor
open Go.ChangeShapes Go.WideShapes Go.RowKit Go.SW
theorem codeOnceUpto_facts : joinedFacts Tryz.pinned.checked.prog 3 Tryz.f3 (Rows.OpenSpec.upto Rows.codeOnceSpec).bare Rows.codeOnceUptoRow = true := by kernel_rfl
end Go.Proofs.YtllfpnbhjfadiaaGreatDoor
/- What the kernel reckons of the row CodeMore: closed facts of the dump. -/
set_option maxRecDepth 100000
namespace Go.Proofs.YtllfpnbhjfadiaaGreatDoor
open Go.ChangeShapes Go.WideShapes Go.RowKit Go.SW
theorem codeMoreUpto_facts : joinedFacts Tryz.pinned.checked.prog 4 Tryz.f4 (Rows.OpenSpec.upto Rows.codeMoreSpec).bare Rows.codeMoreUptoRow = true := by kernel_rfl
end Go.Proofs.YtllfpnbhjfadiaaGreatDoor
