/- errors.Is at an error of the kind api.Errno, the code 81 the target: what it answers; after the kit's worked example of errors.Is. Plain theorems. -/
import Derived.Test.YtjcchjgkkplamaaGreatDoorAs
import Derived.Test.YtjcchjgkkplamaaGreatDoorCalc
set_option maxRecDepth 1000000
set_option linter.unusedVariables false
set_option linter.unusedSimpArgs false
namespace Go.Proofs.YtjcchjgkkplamaaGreatDoor
open Go.RowKit Go.Extern.Stop Go.Stop Go.Extern Go.SW
theorem isComparableE (w : World) : ((Extern.ReflectliteType.method fun t => do Rtype.noPackHeld "Comparable" t; (fun a => Value.bool a.comparable) <$> typeInfo t) #[.agg #[hdl 37]]).run Tryz.prog w = .ok (.bool true) w := by kernel_rfl
theorem isMethodComparable (v : Value) (w : World) : (Go.method 333 159 v "Comparable").run Tryz.prog w = .ok (143, v) w := by kernel_rfl
theorem noIsE (v : Value) (xT : TypeId) (w : World) : (Instr.typeAssert (.iface 37 v) xT 161 true).run Tryz.prog w = .ok (.tuple #[.nilIface, .bool false]) w := run_typeAssert_lacksB Tryz.underlying161 (by kernel_rfl) (by kernel_rfl) v xT w
theorem noUnwrapE (v : Value) (xT : TypeId) (w : World) : (Instr.typeAssert (.iface 37 v) xT 164 true).run Tryz.prog w = .ok (.tuple #[.nilIface, .bool false]) w := run_typeAssert_lacksB Tryz.underlying164 (by kernel_rfl) (by kernel_rfl) v xT w
theorem noUnwrapsE (v : Value) (xT : TypeId) (w : World) : (Instr.typeAssert (.iface 37 v) xT 166 true).run Tryz.prog w = .ok (.tuple #[.nilIface, .bool false]) w := run_typeAssert_lacksB Tryz.underlying166 (by kernel_rfl) (by kernel_rfl) v xT w
theorem eqE (a b : Int) (w : World) : (binOp .eql 30 (.iface 37 (.int .i64 a)) (.iface 37 (.int .i64 b))).run Tryz.prog w = .ok (.bool (a == b)) w := by
  have hc : (Tryz.prog.info? 37).map (·.comparable) = some true := by kernel_rfl
  obtain ⟨inf, h1, h2⟩ := Option.map_eq_some_iff.1 hc
  have hr : (Op.equal 30 (.iface 37 (.int .i64 a)) (.iface 37 (.int .i64 b))).run Tryz.prog w = .ok (a == b) w := by
    unfold Op.equal Op.maxDepth
    rw [Op.equalIn]
    simp only [Sem.run_bind, run_underlying Tryz.underlying30, Result.andThen_ok, ne_eq, not_true_eq_false, if_false, typeInfo]
    simp [h1, h2, run_equalIn_int (P := Tryz.prog) w 9998 37 .i64 .i64 a b Tryz.underlying37, Result.andThen]
  unfold binOp
  simp [hr, Result.andThen]
theorem is_nil (b : Int) (w : World) :
    Calls Tryz.prog 29 #[.nilIface, .iface 37 (.int .i64 b)] w fun e w' => e = .returned (.bool false) ∧ w' = w := by
  have hn := run_eql_iface_nil_left (P := Tryz.prog) w 37 (.int .i64 b) Tryz.underlying30
  go_enter Tryz.func29, Tryz.ntmps29
  go_wp2
  go_ret
  exact ⟨rfl, rfl⟩
set_option maxHeartbeats 8000000 in
theorem is_errno (r : Bool) (a b : Int) (w : World) (hab : (a == b) = r) :
    Calls Tryz.prog 29 #[.iface 37 (.int .i64 a), .iface 37 (.int .i64 b)] w fun e w' => e = .returned (.bool r) ∧ w' = w := by
  have h8 := @run_callFunc_extern Tryz.prog 58 _ Extern.ReflectliteType.typeOf Tryz.func58 (by kernel_rfl) (by kernel_rfl) (by kernel_rfl) (by kernel_rfl)
  have h32 := @run_callFunc_extern Tryz.prog 143 _ (Extern.ReflectliteType.method fun t => do Rtype.noPackHeld "Comparable" t; pure (.bool (← typeInfo t).comparable)) Tryz.func143 (by kernel_rfl) (by kernel_rfl) (by kernel_rfl) (by kernel_rfl)
  have tT := typeOfE
  have cT := isComparableE
  have mR := isMethodComparable
  have nE := noIsE
  have uE := noUnwrapE
  have vE := noUnwrapsE
  have heq := eqE a b w
  rw [hab] at heq
  clear hab
  cases r
  all_goals
    go_enter Tryz.func29, Tryz.ntmps29
    go_wp2
    refine wp_loop_rounds 1 ?_
    rw [rounds_succ]
    go_wp2
    go_ret
    exact ⟨rfl, rfl⟩
/-- The same, as the calculus says it. -/
theorem Is_ct (e : Nat) (w : World) :
    Fun Tryz.prog 29 [errV e, .iface 37 (.int .i64 81)] w fun v w' => v = .bool (e == 81) ∧ Fresh w w' [] := by
  by_cases h : e = 0
  · subst h
    refine Calls.mono (is_nil 81 w) ?_
    rintro ev w' ⟨rfl, rfl⟩
    exact ⟨_, rfl, rfl, (Hp.start _).fresh⟩
  · have hb : (((e : Nat) : Int) == 81) = (e == 81) := by
      rw [Bool.eq_iff_iff]; simp; omega
    rw [show errV e = .iface 37 (.int .i64 ((e : Nat) : Int)) by unfold errV errW; rw [if_neg h]]
    refine Calls.mono (is_errno _ ((e : Nat) : Int) 81 w hb) ?_
    rintro ev w' ⟨rfl, rfl⟩
    exact ⟨_, rfl, rfl, (Hp.start _).fresh⟩
end Go.Proofs.YtjcchjgkkplamaaGreatDoor
