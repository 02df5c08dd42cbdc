/- How a row of whole numbers, or a whole number, among a law's arguments is opened. -/
import Derived.Test.YtjcchjgkkplamaaGreatDoorLawF
import Derived.Test.YtjcchjgkkplamaaGreatDoorCalc
set_option linter.unusedVariables false
set_option maxRecDepth 100000
namespace Go.Proofs.YtjcchjgkkplamaaGreatDoor
open Go.ChangeShapes Go.WideShapes Go.RowKit Go.SW
theorem uInts : Tryz.prog.underlying 25 = some (.slice 3) := by kernel_rfl
section
variable {H : Type} {enc : TypeId × Value → H} {w : World} {base : Nat} {spare : Nat → Bool} {held : Bool} {r : Reach} {b0 : Nat} {v : Value} {d : DataW H} {pl : List MemPlace}
theorem open_nums {fuel : Nat} {cs : List Value} {x : DataW H × List MemPlace} (h : DataW.trod enc Tryz.prog w base spare held fuel 25 cs = some x) : ∃ (v : Value) (zs : List Int), cs = [v] ∧ Row w.cell? v 1 zs.length (iv zs) := by
  rcases open_ints uInts uInt cInt h with ⟨e, _⟩ | ⟨a, len, cap, zs, e, _, hlc, hm, hlen, _, hcell, hwf⟩
  · exact ⟨_, [], e, Row.nil _ _⟩
  · have hzl : len ≤ zs.length := by rw [hlen]; split <;> omega
    refine ⟨_, zs.take len, e, by simp [iv], some a, cap, by simp [Nat.min_eq_left hzl], by simp [Nat.min_eq_left hzl]; exact hlc, hm, fun j u hu => ⟨a, rfl, ?_⟩⟩
    have hj : j < len := by
      have := (List.getElem?_eq_some_iff.1 hu).1
      simpa [iv, Nat.min_eq_left hzl] using this
    rw [hcell j (by omega), ← hu]
    simp [iv, List.getElem?_take, hj, List.getD_eq_getElem?_getD, List.getElem?_eq_getElem (show j < zs.length by omega)]
theorem open_numsV (hval : Value.okWide Tryz.prog w r b0 25 v) (h : DataW.Trod enc Tryz.prog w base spare held 25 v d pl) : ∃ zs : List Int, Row w.cell? v 1 zs.length (iv zs) := by
  obtain ⟨fuel, h⟩ := h
  have hv1 : v.cells.toList = [v] := by
    cases v with
    | agg cs => simp [Value.okWide, uInts, Cell.okWide, Cell.ok] at hval
    | _ => rfl
  obtain ⟨v', zs, e, hR⟩ := open_nums h
  rw [hv1] at e
  cases e
  exact ⟨zs, hR⟩
theorem int_cell (hval : Value.okWide Tryz.prog w r b0 3 v) : v.cells.toList = [v] := by
  cases v with
  | agg cs => simp [Value.okWide, uInt, Cell.okWide, Cell.ok] at hval
  | _ => rfl
theorem open_intV (hval : Value.okWide Tryz.prog w r b0 3 v) (h : DataW.Trod enc Tryz.prog w base spare held 3 v d pl) : ∃ n : Int, v = .int .i64 n ∧ -9223372036854775808 ≤ n ∧ n ≤ 9223372036854775807 := by
  obtain ⟨fuel, h⟩ := h
  obtain ⟨n, e, _, h1⟩ := DataW.trod_int uInt h
  rw [int_cell hval] at e
  cases e
  exact ⟨n, rfl, wf_i64 h1⟩
end
end Go.Proofs.YtjcchjgkkplamaaGreatDoor
