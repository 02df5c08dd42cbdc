/- Rows of whole numbers, as cells. Plain theorems. -/
import Derived.Test.YtjcchjgkkplamaaGreatDoorSWR
namespace Go.Proofs.YtjcchjgkkplamaaGreatDoor
open Go.SW
/-- A row of whole numbers, as cells. -/
def iv (zs : List Int) : List Value := zs.map fun z => .int .i64 z
theorem iv_at (zs : List Int) (k : Nat) (h : k < zs.length) : (iv zs)[k * 1 + 0]? = some (.int .i64 (zs.getD k 0)) := by
  rw [Nat.mul_one, Nat.add_zero, iv, List.getElem?_map, List.getElem?_eq_getElem h, List.getD_eq_getElem?_getD, List.getElem?_eq_getElem h]; rfl
theorem iv_length (zs : List Int) : (iv zs).length = zs.length := by simp [iv]
end Go.Proofs.YtjcchjgkkplamaaGreatDoor
