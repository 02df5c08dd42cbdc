/- The calculus of SW, memory: loads, stores, new blocks, slices that the call makes; plain theorems. -/
import Derived.Test.YtjcchjgkkplamaaGreatDoorSW
set_option linter.unusedVariables false
set_option linter.unusedSimpArgs false
set_option maxRecDepth 100000
namespace Go.SW
open Go Go.RowKit
section
variable {P : Program} {n : Nat} {ops : Array Oper} {Q : Exit → Act → World → Prop} {i : Nat} {fr : Fr} {w : World}
variable {d : Option Tmp} {ty : TypeId} {pos : String} {aft : Array Edge} {g : Option (Nat × Bool)}

variable {K : Fr → World → Prop} {S : World → Prop} {k : Nat} {listed : Array Bool}
/-- A slot's value spelled otherwise. -/
theorem sub_cv (t : Nat) {v : Value} (v' : Value) (e : v = v') (hv : gt fr t = some v) : Sub (pf fr (some t) v') fr := by
  subst e
  intro j u hj
  simp only [pf, gt_cons, gt_rm] at hj
  by_cases ht : t = j
  · subst ht; simp only [if_true, Option.some.injEq] at hj; subst hj; exact hv
  · simpa [ht] using hj
theorem gl_cv (t : Nat) {v : Value} (v' : Value) (e : v = v') (hv : gt fr t = some v) (h : GL P n ops Q i (pf fr (some t) v') w) : GL P n ops Q i fr w := gl_sub _ (sub_cv t v' e hv) h
theorem sw_cv {x : Code} (t : Nat) {v : Value} (v' : Value) (e : v = v') (hv : gt fr t = some v) (h : SW P n x Q (pf fr (some t) v') w) : SW P n x Q fr w := sw_sub _ (sub_cv t v' e hv) h
theorem gd_cv (t : Nat) {v : Value} (v' : Value) (e : v = v') (hv : gt fr t = some v) (h : GD P n ops Q S k listed (pf fr (some t) v') w) : GD P n ops Q S k listed fr w := gd_sub _ (sub_cv t v' e hv) h

/-! ### Types -/
def scalarT (P : Program) (t : TypeId) : Bool :=
  match P.underlying t with
  | some (.struct _) | some (.array _ _) | none => false
  | _ => true
def aggT (P : Program) (t : TypeId) : Bool :=
  match P.underlying t with
  | some (.struct _) | some (.array _ _) => true
  | _ => false
theorem run_isAgg_false {t : TypeId} (h : scalarT P t = true) : (isAgg t).run P w = .ok false w := by
  unfold scalarT at h
  unfold isAgg underlying
  cases hu : P.underlying t with
  | none => simp [hu] at h
  | some d => cases d <;> simp_all [Result.andThen]
theorem run_isAgg_true {t : TypeId} (h : aggT P t = true) : (isAgg t).run P w = .ok true w := by
  unfold aggT at h
  unfold isAgg underlying
  cases hu : P.underlying t with
  | none => simp [hu] at h
  | some d => cases d <;> simp_all [Result.andThen]
def sizeT (P : Program) (t : TypeId) : Option Nat := (P.info? t).map (·.size)
theorem run_sizeOf_of {t : TypeId} {m : Nat} (h : sizeT P t = some m) : (sizeOf t).run P w = .ok m w := by
  obtain ⟨i, hi, hs⟩ := Option.map_eq_some_iff.1 h
  simp [sizeOf, typeInfo, hi, hs, Result.andThen]

/-! ### Loads -/
theorem rd_load {t : TypeId} {x : Operand} (ht : scalarT P t = true) {ad : Addr} (hx : ev fr x = .pointer (some ad)) {v : Value} (hc : w.cell? ad = some v) : Runs P fr ⟨d, .load t x, ty, pos, aft, g⟩ v w := by
  simp [Runs, execOp, hx, Instr.loadAt, Instr.sureAddr, loadVar, run_isAgg_false ht, hc, Result.andThen]
theorem rd_loadA {t : TypeId} {x : Operand} (ht : aggT P t = true) {ad : Addr} (hx : ev fr x = .pointer (some ad)) (cs : List Value) (hz : sizeT P t = some cs.length) (hc : ∀ j u, cs[j]? = some u → w.cell? (ad.add j) = some u) :
    Runs P fr ⟨d, .load t x, ty, pos, aft, g⟩ (.agg cs.toArray) w := by
  have hl := run_loadCells_list (P := P) (w := w) ad cs hc
  simp [Runs, execOp, hx, Instr.loadAt, Instr.sureAddr, loadVar, run_isAgg_true ht, run_sizeOf_of hz, hl, Result.andThen]

/-! ### Stores, new blocks -/
theorem st_store {t : TypeId} {x y : Operand} (hi : ops[i]? = some ⟨d, .store t x y, ty, pos, aft, g⟩) (hg : guardV ops fr ⟨d, .store t x y, ty, pos, aft, g⟩ = some true) (hs : (dok n d && knowns fr (.store t x y) && true) = true)
    {ad : Addr} (hx : ev fr x = .pointer (some ad)) {v : Value} (hy : ev fr y = v) (hv : v.oneCell' = true) (hz : sizeT P t = some 1) {u : Value} (hc : w.cell? ad = some u) (hf : w.frozen? ad = false)
    (h : K (pf fr d undef) (w.setCell ad v)) : ST P n ops Q i K fr w := by
  refine st_run0 hi hg hs (w.setCell ad v) ?_ h
  have hcs : v.cells = #[v] := by cases v <;> simp_all [Value.cells, Value.oneCell']
  have hst := run_store P w ad v .plain hv
  simp [execOp, hx, hy, Instr.storeAt, Instr.sureAddr, storeVar, run_sizeOf_of hz, hcs, storeCells, Addr.add, hst, stored, hc, hf, Result.andThen]
theorem st_box {e : TypeId} {x : Operand} (hi : ops[i]? = some ⟨d, .box e x, ty, pos, aft, g⟩) (hg : guardV ops fr ⟨d, .box e x, ty, pos, aft, g⟩ = some true) (hs : (dok n d && knowns fr (.box e x) && true) = true)
    {v : Value} (hx : ev fr x = v) (h : K (pf fr d (.pointer (some ⟨w.heap.size, 0, none⟩))) (w.alloc (.cells v.cells e))) : ST P n ops Q i K fr w := by
  refine st_run hi hg hs _ _ ?_ h
  simp [execOp, hx, Instr.box, newVar, newRow, Result.andThen]
def zeroT (P : Program) (t : TypeId) : Option Value := (P.info? t).bind (·.zero)
theorem st_alloc {e : TypeId} (hi : ops[i]? = some ⟨d, .alloc e, ty, pos, aft, g⟩) (hg : guardV ops fr ⟨d, .alloc e, ty, pos, aft, g⟩ = some true) (hs : (dok n d && true && true) = true)
    {z : Value} (hz : zeroT P e = some z) (h : K (pf fr d (.pointer (some ⟨w.heap.size, 0, none⟩))) (w.alloc (.cells z.cells e))) : ST P n ops Q i K fr w := by
  refine st_run hi hg hs _ _ ?_ h
  obtain ⟨inf, h1, h2⟩ := Option.bind_eq_some_iff.1 hz
  simp [execOp, Instr.alloc, zeroValue, typeInfo, h1, h2, newVar, newRow, Result.andThen]

/-! ### Slices: an element's address, cuts, make, append -/
def elemT (P : Program) (t : TypeId) : Option TypeId :=
  match P.underlying t with
  | some (.slice e) => some e
  | _ => none
theorem underlying_of_elem {t e : TypeId} (h : elemT P t = some e) : P.underlying t = some (.slice e) := by
  unfold elemT at h
  cases hu : P.underlying t with
  | none => simp [hu] at h
  | some d => cases d <;> simp_all
theorem rd_index {t e : TypeId} {x y : Operand} (ht : elemT P t = some e) {m : Nat} (hz : sizeT P e = some m) {A : Addr} {l c : Nat} (hx : ev fr x = .slice (some A) l c) {k : IntKind} (j : Nat) (hy : ev fr y = .int k j) (hj : j < l) :
    Runs P fr ⟨d, .indexAddr t x y, ty, pos, aft, g⟩ (.pointer (some (A.add (j * m)))) w := by
  have hlt : (j : Int) < (l : Int) := by omega
  have hnn : (0 : Int) ≤ (j : Int) := by omega
  simp [Runs, execOp, hx, hy, Instr.indexAt, asIntOf, run_underlying (underlying_of_elem ht), hlt, hnn, hj, run_sizeOf_of hz, Result.andThen]
theorem st_make {t e : TypeId} {x y : Operand} (hi : ops[i]? = some ⟨d, .makeSlice t x y, ty, pos, aft, g⟩) (hg : guardV ops fr ⟨d, .makeSlice t x y, ty, pos, aft, g⟩ = some true) (hs : (dok n d && knowns fr (.makeSlice t x y) && true) = true)
    (ht : elemT P t = some e) {z : Value} {bytes : Nat} (he : (P.info? e).map (fun i => (i.zero, i.size, i.bytes)) = some (some z, 1, bytes)) (hz1 : z.cells = #[z])
    (l : Nat) {k k' : IntKind} (hx : ev fr x = .int k l) (hy : ev fr y = .int k' l) (hb : bytes * l ≤ 281474976710656) (hm : l ≤ maxLen)
    (h : ∀ w', w'.ownsRow w.heap.size e 1 (.slice (some ⟨w.heap.size, 0, none⟩) l l) l (List.replicate l z) → w.grownBy w' none → K (pf fr d (.slice (some ⟨w.heap.size, 0, none⟩) l l)) w') : ST P n ops Q i K fr w := by
  obtain ⟨inf, h1, h2, h3, h4⟩ := info_parts he
  obtain ⟨w', hrun, r1, r2⟩ := run_make_full (P := P) w w.heap.size t e inf z 1 (underlying_of_elem ht) h1 h2 h3 k k' l (by rw [h4]; exact hb) hm (Nat.le_refl _)
  refine st_run hi hg hs _ w' ?_ (h w' ?_ r2)
  · simp [execOp, hx, hy, hrun, Result.andThen]
  · rw [hz1, toList_madeCells_one, Nat.mul_one] at r1
    exact r1
end
end Go.SW
