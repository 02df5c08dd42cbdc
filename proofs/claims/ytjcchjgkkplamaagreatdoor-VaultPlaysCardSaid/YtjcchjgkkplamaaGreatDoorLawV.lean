/- How a row of acts of law 20 is opened. -/
import Derived.Test.YtjcchjgkkplamaaGreatDoorVPlays
import Derived.Test.YtjcchjgkkplamaaGreatDoorLawN
import Derived.Test.YtjcchjgkkplamaaGreatDoorLawG
set_option linter.unusedVariables false
set_option maxRecDepth 100000
namespace Go.Proofs.YtjcchjgkkplamaaGreatDoor
open Go.ChangeShapes Go.WideShapes Go.RowKit Go.SW
theorem uActs20 : Tryz.prog.underlying 40 = some (.slice 44) := by kernel_rfl
theorem uAct20 : Tryz.prog.underlying 44 = some (.struct (Tryz.prog.fieldsOf 44)) := by kernel_rfl
theorem fAct20 : (Tryz.prog.fieldsOf 44).toList.map (fun f => (f.type, f.offset)) = [(3, 0), (3, 1), (3, 2), (24, 3), (22, 7), (25, 8)] := by kernel_rfl
theorem cAct20 : Tryz.prog.cellsOf 44 = 9 := by kernel_rfl
theorem cInts20 : Tryz.prog.cellsOf 25 = 1 := by kernel_rfl
section
variable {H : Type} {enc : TypeId × Value → H} {w : World} {base : Nat} {spare : Nat → Bool} {held : Bool}
theorem open_act20 {fuel : Nat} {cs : List Value} {x : DataW H × List MemPlace} (h : DataW.trod enc Tryz.prog w base spare held fuel 44 cs = some x) :
    ∃ a : VA, cs = vaC a ∧ ((x.1.weights Tryz.prog 44).all (· ≤ reachBytes) = true → VOk w a) := by
  obtain ⟨xs, n, rfl, hl, hxl, hp⟩ := struct_parts uAct20 _ fAct20 h
  rw [cAct20] at hl
  match cs, hl with
  | [c0, c1, c2, c3, c4, c5, c6, c7, c8], _ =>
  match xs, hxl with
  | [x0, x1, x2, x3, x4, x5], _ =>
  have h0 := hp 0 _ _ rfl
  have h1 := hp 1 _ _ rfl
  have h2 := hp 2 _ _ rfl
  have h3 := hp 3 _ _ rfl
  have h4 := hp 4 _ _ rfl
  have h5 := hp 5 _ _ rfl
  simp only [cInt, cBytes, cSnap, cInts20, List.drop_zero, List.drop_succ_cons, List.take_succ_cons, List.take_zero, List.getElem?_cons_zero, List.getElem?_cons_succ] at h0 h1 h2 h3 h4 h5
  obtain ⟨dv, e0, rfl, w0⟩ := DataW.trod_int uInt h0
  obtain ⟨n1, e1, rfl, w1⟩ := DataW.trod_int uInt h1
  obtain ⟨m1, e2, rfl, w2⟩ := DataW.trod_int uInt h2
  obtain ⟨i, t, vc, vd, cf, dt, e3, hi, ht, hc, hd, s3⟩ := open_snap h3
  obtain ⟨vb, b, e4, r4, s4⟩ := open_bytes uBytes uU8 cU8 zU8 h4
  obtain ⟨vl, ks, e5, r5⟩ := open_nums h5
  cases e0; cases e1; cases e2; cases e3; cases e4; cases e5
  refine ⟨⟨dv, n1, m1, i, t, _, cf, _, dt, _, b, _, ks⟩, rfl, fun hall => ?_⟩
  have hfs : ((Tryz.prog.fieldsOf 44).toList.map (·.type)) = [3, 3, 3, 24, 22, 25] := by kernel_rfl
  simp only [DataW.weights, uAct20, hfs, List.map_cons, List.map_nil, DataW.weightsEach, List.nil_append, List.append_nil, List.all_append, Bool.and_eq_true] at hall
  have hr : reachBytes ≤ 140737488355328 := by decide
  exact ⟨hc, hd, r4, r5, hi, ht, (wf_i64 w1).2, Nat.le_trans (s3 hall.1).2 hr, Nat.le_trans (s4 hall.2.1) hr⟩
theorem open_acts20V {r : Reach} {b0 : Nat} {v : Value} {d : DataW H} {pl : List MemPlace} (hval : Value.okWide Tryz.prog w r b0 40 v) (h : DataW.Trod enc Tryz.prog w base spare held 40 v d pl) (hz : (d.weights Tryz.prog 40).all (· ≤ reachBytes) = true) :
    ∃ ac : List VA, Row w.cell? v 9 ac.length (rowC vaC ac) ∧ ∀ a ∈ ac, VOk w a := by
  obtain ⟨fuel, h⟩ := h
  obtain ⟨v', L, e, hR, _, hL, _⟩ := open_rowG uActs20 cAct20 h
  rw [one_cell uActs20 hval] at e
  cases e
  obtain ⟨ac, rfl, hps⟩ := list_choose (f := vaC) (Q := fun a => VOk w a) L (fun c hc => by
    obtain ⟨f', y, hy, hw⟩ := hL c hc
    obtain ⟨q, e1, e2⟩ := open_act20 hy
    exact ⟨q, e1, e2 (hw hz)⟩)
  exact ⟨ac, by rw [List.length_map] at hR; exact hR, hps⟩
end
end Go.Proofs.YtjcchjgkkplamaaGreatDoor
