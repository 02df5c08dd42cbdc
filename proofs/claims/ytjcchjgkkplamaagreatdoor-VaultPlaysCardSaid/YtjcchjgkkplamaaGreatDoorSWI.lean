/- The calculus of SW, operations that call a round of a range over a function: 'GLI': a region in the fenced layer, with nothing asked. Plain theorems. -/
import Derived.Test.YtjcchjgkkplamaaGreatDoorCalc
import Derived.RangeFuncGives
set_option linter.unusedVariables false
set_option linter.unusedSimpArgs false
set_option maxRecDepth 100000
namespace Go.SW
open Go Go.RowKit
section
variable {P : Program} {n : Nat} {ops : Array Oper} {Q : Exit → Act → World → Prop} {i : Nat} {fr : Fr} {w : World}
def GLI (P : Program) (n : Nat) (ops : Array Oper) (Q : Exit → Act → World → Prop) (i : Nat) (fr : Fr) (w : World) : Prop :=
  ∀ a, Fits n fr a → wpListIn Fence.wide 2 P ops Q (ops.toList.drop i) a w
theorem sw_regionI {id : Nat} {l : List Oper} (h : GLI P n l.toArray Q 0 fr w) : SW P n (.region id l.toArray false) Q fr w := fun a ha => wpIn_wide.1 (wpIn_region_lit (n := 2) (by simpa using h a ha))
theorem gli_done (hi : Nat.beq ops.size i = true) (h : At n Q .normal fr w) : GLI P n ops Q i fr w := by
  intro a ha
  have : ops.toList.drop i = [] := by
    have := Nat.eq_of_beq_eq_true hi
    rw [List.drop_eq_nil_iff]; simp; omega
  rw [this]
  exact wpListIn_nil (h a ha)
theorem gli_sub (fr' : Fr) (hs : Sub fr' fr) (h : GLI P n ops Q i fr' w) : GLI P n ops Q i fr w := fun a ha => h a (ha.sub hs)
theorem gli_keep (fr' : Fr) (hs : (fr'.map fun p => gt fr p.1) = fr'.map fun p => some p.2) (h : GLI P n ops Q i fr' w) : GLI P n ops Q i fr w := gli_sub fr' (Sub.of_eq hs) h
theorem gli_cv (t : Nat) {v : Value} (v' : Value) (e : v = v') (hv : gt fr t = some v) (h : GLI P n ops Q i (pf fr (some t) v') w) : GLI P n ops Q i fr w := gli_sub _ (sub_cv t v' e hv) h
theorem gli_q {o : Oper} (hi : ops[i]? = some o) (hg : guardV ops fr o = some true) (hs : (dok n o.dst && knowns fr o.op && noSel o.op) = true) {v : Value}
    (hr : Runs P fr o v w) (h : GLI P n ops Q (i + 1) (pf fr o.dst v) w) : GLI P n ops Q i fr w := by
  intro a ha
  rw [drop_at hi]
  refine wpListIn_step fun K hK => ?_
  simp only [Bool.and_eq_true] at hs
  rw [if_pos (by rw [guard_wanted hg ha])]
  refine ⟨fun _ _ => trivial, ?_⟩
  rw [show Oper.semAt Fence.wide.round a.eval o = execOp a.eval o from rfl, ha.exec hs.1.2 hs.2, hr]
  exact hK _ _ (h _ (ha.put hs.1.1 v))
theorem gli_pure {o : Oper} (hi : ops[i]? = some o) (hg : guardV ops fr o = some true) (hs : (dok n o.dst && knowns fr o.op && noSel o.op) = true) (v : Value)
    (hr : sp P (execOp (ev fr) o) = some (.value v)) (h : GLI P n ops Q (i + 1) (pf fr o.dst v) w) : GLI P n ops Q i fr w := gli_q hi hg hs (sp_run hr w) h
/-- A round. -/
theorem gli_yield {d : Option Tmp} {x y : Operand} {tys : Array TypeId} {ty : TypeId} {pos : String} {aft : Array Edge} {g : Option (Nat × Bool)}
    (hi : ops[i]? = some ⟨d, .call ⟨.value x, #[y], tys⟩, ty, pos, aft, g⟩) (hg : guardV ops fr ⟨d, .call ⟨.value x, #[y], tys⟩, ty, pos, aft, g⟩ = some true)
    (hs : (dok n d && (kn fr x && kn fr y)) = true) {l : Nat} (hx : ev fr x = .func (.yield l) #[] #[]) {v : Value} (hy : ev fr y = v) {R : Ending → World → Prop} (hY : YieldAt Fence.wide 1 P l #[v] w R)
    (h : ∀ e w', R e w' → ∃ u, e = .returned u ∧ GLI P n ops Q (i + 1) (pf fr d u) w') : GLI P n ops Q i fr w := by
  intro a ha
  rw [drop_at hi]
  refine wpListIn_step fun K hK => ?_
  simp only [Bool.and_eq_true] at hs
  rw [if_pos (by rw [guard_wanted hg ha])]
  refine ⟨fun _ _ => trivial, ?_⟩
  obtain ⟨fn, tmps, assign, body, hyl, hR⟩ := hY
  rw [show Oper.semAt Fence.wide.round a.eval (⟨d, .call ⟨.value x, #[y], tys⟩, ty, pos, aft, g⟩ : Oper) = execOp a.eval ⟨d, .call ⟨.value x, #[y], tys⟩, ty, pos, aft, g⟩ from rfl]
  rw [ha.exec (by simp only [knowns, Op.operands, Call.operands]; simp [hs.2.1, hs.2.2]) rfl]
  have hr : (execOp (ev fr) ⟨d, .call ⟨.value x, #[y], tys⟩, ty, pos, aft, g⟩).run P w = .ok (.round l fn tmps assign body) w := by
    simp only [execOp, resolve, hx, Deferred.ofValue, invoke, Sem.run_bind, Sem.run_pure, Result.andThen_ok]
    simpa [hy] using hyl
  rw [hr]
  refine ⟨fun _ => by decide, ?_⟩
  refine RoundIn.mono hR ?_
  intro e w' he
  obtain ⟨u, rfl, hk⟩ := h e w' he
  exact hK _ _ (hk _ (ha.put hs.1 u))
theorem hp_of_below {w0 : World} (h : Below w0.heap.size w0 w) : Hp w0 w w0.cell? [] [] :=
  ⟨h.os, h.tape, h.output, h.size, fun k hk _ => h.block k hk, fun a v ha => (World.cell?_of_block (h.block _ (World.block_lt_of_cell? _ a ha))).trans ha, by simp, by simp [blksOf], by simp [blksOf]⟩
end
end Go.SW
