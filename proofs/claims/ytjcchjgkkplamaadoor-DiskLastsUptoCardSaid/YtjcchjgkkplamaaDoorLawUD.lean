/- How a row of acts is opened, and its bulk. -/
import Derived.Test.YtjcchjgkkplamaaDoorLawU
import Derived.Test.YtjcchjgkkplamaaDoorLawDP
set_option linter.unusedVariables false
set_option maxRecDepth 100000
namespace Go.Proofs.YtjcchjgkkplamaaDoor
open Go.ChangeShapes Go.WideShapes Go.RowKit Go.SW
theorem uActs : Tryd.prog.underlying 70 = some (.slice 77) := by kernel_rfl
theorem uAct : Tryd.prog.underlying 77 = some (.struct (Tryd.prog.fieldsOf 77)) := by kernel_rfl
theorem fAct : (Tryd.prog.fieldsOf 77).toList.map (fun f => (f.type, f.offset)) = [(3, 0), (9, 1), (22, 2), (3, 3), (3, 4), (66, 5)] := by kernel_rfl
theorem cAct : Tryd.prog.cellsOf 77 = 6 := by kernel_rfl
section
variable {H : Type} {enc : TypeId × Value → H} {w : World} {base : Nat} {spare : Nat → Bool} {held : Bool}
theorem open_act {fuel : Nat} {cs : List Value} {x : DataW H × List MemPlace} (h : DataW.trod enc Tryd.prog w base spare held fuel 77 cs = some x) (hb : Rows.uptoBulk x.1 ≤ 1048576) :
    ∃ a : AV, cs = actC a ∧ ActOk w a ∧ a.b.length ≤ Rows.uptoBulk x.1 := by
  obtain ⟨xs, n, rfl, hl, hxl, hp⟩ := struct_parts uAct _ fAct h
  rw [cAct] at hl
  match cs, hl with
  | [c0, c1, c2, c3, c4, c5], _ =>
  match xs, hxl with
  | [x0, x1, x2, x3, x4, x5], _ =>
  have h0 := hp 0 _ _ rfl
  have h1 := hp 1 _ _ rfl
  have h2 := hp 2 _ _ rfl
  have h3 := hp 3 _ _ rfl
  have h4 := hp 4 _ _ rfl
  have h5 := hp 5 _ _ rfl
  simp only [cInt, cBytes, cStr, cInts, List.drop_zero, List.drop_succ_cons, List.take_succ_cons, List.take_zero, List.getElem?_cons_zero, List.getElem?_cons_succ] at h0 h1 h2 h3 h4 h5
  obtain ⟨i, e0, rfl, w0⟩ := DataW.trod_int uInt h0
  obtain ⟨nm, e1, s1, _⟩ := open_strU uStr h1
  obtain ⟨vb, b, e2, r2, s2⟩ := open_bytesU uBytes uU8 cU8 zU8 h2
  obtain ⟨n1, e3, rfl, w3⟩ := DataW.trod_int uInt h3
  obtain ⟨m1, e4, rfl, w4⟩ := DataW.trod_int uInt h4
  obtain ⟨vl, ks, e5, r5, s5⟩ := open_numsU uIntsU uInt cInt h5
  cases e0; cases e1; cases e2; cases e3; cases e4; cases e5
  simp only [List.map_cons, List.map_nil, Rows.uptoBulk, Rows.uptoBulkAll] at hb ⊢
  exact ⟨⟨i, nm, _, b, n1, m1, _, ks⟩, rfl, ⟨r2, r5, (wf_i64 w3).2, by simp only; omega, by simp only; omega⟩, by simp only; omega⟩
theorem open_actsV {r : Reach} {b0 : Nat} {v : Value} {d : DataW H} {pl : List MemPlace} (hval : Value.okWide Tryd.prog w r b0 70 v) (h : DataW.Trod enc Tryd.prog w base spare held 70 v d pl) (hb : Rows.uptoBulk d ≤ 1048576) :
    ∃ ac : List AV, Row w.cell? v 6 ac.length (rowC actC ac) ∧ (∀ a ∈ ac, ActOk w a) ∧ sumB ac ≤ Rows.uptoBulk d := by
  obtain ⟨fuel, h⟩ := h
  obtain ⟨v', L, ys, e, hR, _, hly, hL, hbk⟩ := open_rowU uActs cAct h
  rw [one_cell uActs hval] at e
  cases e
  obtain ⟨ac, rfl, hok, hs⟩ := rows_choose (f := actC) (Q := ActOk w) (g := fun a => a.b.length) L ys hly (fun i c hi => by
    obtain ⟨f', y, hy, ht⟩ := hL i c hi
    have h1 : Rows.uptoBulk y.1 ≤ Rows.uptoBulkAll ys := bk_part hy
    obtain ⟨a, e1, e2, e3⟩ := open_act ht (by simp only at hbk; omega)
    exact ⟨y.1, a, hy, e1, e2, e3⟩)
  refine ⟨ac, by rw [List.length_map] at hR; exact hR, hok, ?_⟩
  unfold sumB
  simp only at hbk
  omega
end
end Go.Proofs.YtjcchjgkkplamaaDoor
