/- The calculus of SW: a guard that is not decided, in a region whose order is drawn. Plain theorems. -/
import Derived.Test.YtjcchjgkkplamaaGreatDoorSWM
set_option linter.unusedVariables false
set_option linter.unusedSimpArgs false
set_option maxRecDepth 100000
namespace Go.SW
open Go Go.RowKit
section
variable {P : Program} {n : Nat} {ops : Array Oper} {Q : Exit → Act → World → Prop} {S : World → Prop} {k : Nat} {listed : Array Bool} {fr : Fr} {w : World}
theorem gd_split (t : Nat) {b : Bool} (hv : gt fr t = some (.bool b)) (ht : b = true → GD P n ops Q S k listed (pf fr (some t) (.bool true)) w) (hf : b = false → GD P n ops Q S k listed (pf fr (some t) (.bool false)) w) : GD P n ops Q S k listed fr w := by
  cases b with
  | true => exact gd_sub _ (sub_cv t (.bool true) rfl hv) (ht rfl)
  | false => exact gd_sub _ (sub_cv t (.bool false) rfl hv) (hf rfl)
theorem sw_split {x : Code} (t : Nat) {b : Bool} (hv : gt fr t = some (.bool b)) (ht : b = true → SW P n x Q (pf fr (some t) (.bool true)) w) (hf : b = false → SW P n x Q (pf fr (some t) (.bool false)) w) : SW P n x Q fr w := by
  cases b with
  | true => exact sw_sub _ (sub_cv t (.bool true) rfl hv) (ht rfl)
  | false => exact sw_sub _ (sub_cv t (.bool false) rfl hv) (hf rfl)
end
end Go.SW
