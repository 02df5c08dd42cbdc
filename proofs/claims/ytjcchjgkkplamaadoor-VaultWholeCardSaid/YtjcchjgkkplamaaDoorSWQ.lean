/- The calculus of SW: remainders by a number that is known to be positive; the low bits of any number. Plain theorems. -/
import Derived.Test.YtjcchjgkkplamaaDoorSWV
set_option linter.unusedVariables false
set_option linter.unusedSimpArgs false
set_option maxRecDepth 100000
namespace Go.SW
open Go Go.RowKit
section
variable {P : Program} {fr : Fr} {w : World} {d : Option Tmp} {ty : TypeId} {pos : String} {aft : Array Edge} {g : Option (Nat × Bool)}
theorem rd_remN {t t2 : TypeId} {x y : Operand} {k : IntKind} {a b c : Nat} (hx : ev fr x = .int k (a : Nat)) (hy : ev fr y = .int k (b : Nat)) (hb : 0 < b) (hc : a % b = c) : Runs P fr ⟨d, .binOp .rem t x y t2, ty, pos, aft, g⟩ (.int k (c : Nat)) w := by
  have h0 : ((b : Nat) : Int) ≠ 0 := by omega
  have e : Int.tmod ((a : Nat) : Int) ((b : Nat) : Int) = ((c : Nat) : Int) := by rw [← Int.ofNat_tmod, hc]
  have hm : binOp .rem t (.int k ((a : Nat) : Int)) (.int k ((b : Nat) : Int)) = pure (.int k (Int.tmod ((a : Nat) : Int) ((b : Nat) : Int))) := by
    unfold binOp Op.intDiv
    simp only [ne_eq, not_true_eq_false, if_false, if_neg h0]
  unfold Runs
  simp only [execOp, hx, hy, Sem.run_bind, hm, e]
  simp [eqGuard, Result.andThen]
end
/-- The low ten bits, two bits. -/
def lo10 (a : Int) : Nat := (BitVec.ofInt 64 a).toNat % 1024
def lo2 (a : Int) : Nat := (BitVec.ofInt 64 a).toNat % 4
theorem lo10_lt (a : Int) : lo10 a < 1024 := Nat.mod_lt _ (by omega)
theorem cv_lo10 (a : Int) : Value.int .i64 (IntKind.i64.wrap (((BitVec.ofInt 64 a &&& BitVec.ofInt 64 1023).toNat : Nat) : Int)) = .int .i64 ((lo10 a : Nat) : Int) := by
  have h : (BitVec.ofInt 64 a &&& BitVec.ofInt 64 1023).toNat = lo10 a := by
    rw [BitVec.toNat_and, show (BitVec.ofInt 64 1023).toNat = 2 ^ 10 - 1 from by decide, Nat.and_two_pow_sub_one_eq_mod]
    rfl
  rw [h, IntWalk.i64_in _ (by have := lo10_lt a; omega)]
theorem cv_lo2 (a : Int) : Value.int .i64 (IntKind.i64.wrap (((BitVec.ofInt 64 a &&& BitVec.ofInt 64 3).toNat : Nat) : Int)) = .int .i64 ((lo2 a : Nat) : Int) := by
  have h : (BitVec.ofInt 64 a &&& BitVec.ofInt 64 3).toNat = lo2 a := by
    rw [BitVec.toNat_and, show (BitVec.ofInt 64 3).toNat = 2 ^ 2 - 1 from by decide, Nat.and_two_pow_sub_one_eq_mod]
    rfl
  rw [h, IntWalk.i64_in _ (by have : lo2 a < 4 := Nat.mod_lt _ (by omega); omega)]
theorem cv_ne0 {a : Nat} (h : 1 ≤ a) : Value.bool (((a : Nat) : Int) == (0 : Int)) = .bool false := by
  have : (((a : Nat) : Int) == (0 : Int)) = false := by
    rw [beq_eq_false_iff_ne]; omega
  rw [this]
theorem cv_same1 (n : Nat) : Value.bool (decide (n = 1) == (((n : Nat) : Int) == (1 : Int))) = .bool true := by
  by_cases h : n = 1
  · subst h; rfl
  · have : (((n : Nat) : Int) == (1 : Int)) = false := by rw [beq_eq_false_iff_ne]; omega
    rw [this, show decide (n = 1) = false from by simpa using h]; rfl
end Go.SW
