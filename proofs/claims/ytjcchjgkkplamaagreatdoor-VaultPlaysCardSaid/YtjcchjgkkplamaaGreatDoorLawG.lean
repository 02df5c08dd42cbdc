/- How a row of structs (or of rows) among a law's arguments is opened, element by element. -/
import Derived.Test.YtjcchjgkkplamaaGreatDoorLawF
import Derived.Test.YtjcchjgkkplamaaGreatDoorCalc
set_option linter.unusedVariables false
set_option maxRecDepth 100000
namespace Go.Proofs.YtjcchjgkkplamaaGreatDoor
open Go.ChangeShapes Go.WideShapes Go.RowKit Go.SW
section
variable {H : Type} {enc : TypeId × Value → H} {P : Program} {w : World} {base : Nat} {spare : Nat → Bool} {held : Bool}
theorem weightsAll_mem {e : TypeId} : ∀ (ds : List (DataW H)), (DataW.weightsAll P e ds).all (· ≤ reachBytes) = true → ∀ d ∈ ds, (d.weights P e).all (· ≤ reachBytes) = true
  | [], _, _, h => by simp at h
  | d :: ds, h, x, hx => by
    simp only [DataW.weightsAll, List.all_append, Bool.and_eq_true] at h
    rcases List.mem_cons.1 hx with rfl | hx
    · exact h.1
    · exact weightsAll_mem ds h.2 x hx
theorem open_rowG {t e : TypeId} {m fuel : Nat} {cs : List Value} {x : DataW H × List MemPlace} (ht : P.underlying t = some (.slice e)) (hm : P.cellsOf e = m) (h : DataW.trod enc P w base spare held fuel t cs = some x) :
    ∃ (v : Value) (L : List (List Value)), cs = [v] ∧ Row w.cell? v m L.length L.flatten ∧ (∀ c ∈ L, c.length = m) ∧
      (∀ c ∈ L, ∃ fuel' y, DataW.trod enc P w base spare held fuel' e c = some y ∧ ((x.1.weights P t).all (· ≤ reachBytes) = true → (y.1.weights P e).all (· ≤ reachBytes) = true)) ∧
      ((x.1.weights P t).all (· ≤ reachBytes) = true → L.length * P.bytesOf e ≤ reachBytes) := by
  rcases DataW.trod_slice ht h with ⟨rfl, rfl⟩ | ⟨a, len, cap, elems, rest, n, _, rfl, rfl, hb, hl, hmx, hlen, hel, hsp, hns⟩
  · exact ⟨_, [], rfl, Row.nil _ _, by simp, by simp, fun _ => by simp⟩
  have hsome : ∀ i, i < len → ∃ c y, w.cells? base (a.add (i * m)) m = some c ∧ elems[i]? = some y ∧ DataW.trod enc P w base spare held n e c = some y := by
    intro i hi
    have h1 := hel i hi
    rw [hm, List.getElem?_eq_getElem (show i < elems.length by omega), Option.bind_eq_some_iff] at h1
    obtain ⟨c, h2, h3⟩ := h1
    exact ⟨c, _, h2, List.getElem?_eq_getElem (show i < elems.length by omega), h3⟩
  let L := (List.range len).map fun i => (w.cells? base (a.add (i * m)) m).getD []
  have hL : ∀ i, i < len → ∃ c y, L[i]? = some c ∧ w.cells? base (a.add (i * m)) m = some c ∧ elems[i]? = some y ∧ DataW.trod enc P w base spare held n e c = some y := by
    intro i hi
    obtain ⟨c, y, h1, h2, h3⟩ := hsome i hi
    exact ⟨c, y, by simp [L, hi, h1], h1, h2, h3⟩
  have hLl : L.length = len := by simp [L]
  have hmem : ∀ c ∈ L, ∃ i, i < len ∧ w.cells? base (a.add (i * m)) m = some c ∧ ∃ y, elems[i]? = some y ∧ DataW.trod enc P w base spare held n e c = some y := by
    intro c hc
    obtain ⟨i, hi⟩ := List.getElem?_of_mem hc
    have hil : i < len := by have := (List.getElem?_eq_some_iff.1 hi).1; omega
    obtain ⟨c', y, h0, h1, h2, h3⟩ := hL i hil
    rw [hi] at h0; cases h0
    exact ⟨i, hil, h1, y, h2, h3⟩
  have hlens : ∀ c ∈ L, c.length = m := fun c hc => by
    obtain ⟨i, _, h1, _⟩ := hmem c hc
    exact (World.cells?_some h1).2.1
  refine ⟨_, L, rfl, ⟨flat_len L m hlens, some a, cap, by rw [hLl], by omega, hmx, fun j u hu => ⟨a, rfl, ?_⟩⟩, hlens, fun c hc => ?_, fun hall => ?_⟩
  · have hj : j < L.length * m := by rw [← flat_len L m hlens]; exact (List.getElem?_eq_some_iff.1 hu).1
    have hm0 : 0 < m := by
      rcases Nat.eq_zero_or_pos m with h0 | h0
      · rw [h0] at hj; omega
      · exact h0
    have hi : j / m < len := by rw [← hLl]; exact (Nat.div_lt_iff_lt_mul hm0).2 hj
    have hq : j % m < m := Nat.mod_lt _ hm0
    obtain ⟨c, y, h0, h1, _, _⟩ := hL _ hi
    have hf := flat_get L m hlens (j / m) (j % m) c h0 hq
    have ej : j / m * m + j % m = j := by rw [Nat.mul_comm]; exact Nat.div_add_mod j m
    rw [ej, hu] at hf
    have h2 := (World.cells?_some h1).2.2 (j % m) hq
    rw [← hf, add_add, ej] at h2
    exact h2
  · obtain ⟨i, hil, _, y, h2, h3⟩ := hmem c hc
    refine ⟨n, y, h3, fun hall => ?_⟩
    simp only [DataW.weights, ht, List.all_cons, List.all_append, Bool.and_eq_true] at hall
    exact weightsAll_mem _ hall.2.1 y.1 (List.mem_map.2 ⟨y, List.mem_of_getElem? h2, rfl⟩)
  · simp only [DataW.weights, ht, List.all_cons, Bool.and_eq_true, decide_eq_true_eq] at hall
    have h1 := hall.1
    simp only [List.length_map] at h1
    refine Nat.le_trans (Nat.mul_le_mul_right _ ?_) h1
    omega
end
theorem one_cell {w : World} {r : Reach} {b0 : Nat} {t e : TypeId} {v : Value} (ht : Tryz.prog.underlying t = some (.slice e)) (hval : Value.okWide Tryz.prog w r b0 t v) : v.cells.toList = [v] := by
  cases v with
  | agg cs => simp [Value.okWide, ht, Cell.okWide, Cell.ok] at hval
  | _ => rfl
end Go.Proofs.YtjcchjgkkplamaaGreatDoor
