/- Errors by their numbers. -/
import Derived.Test.YtjcchjgkkplamaaGreatDoorSWV
import Derived.Test.YtjcchjgkkplamaaGreatDoorProg
namespace Go.Proofs.YtjcchjgkkplamaaGreatDoor
open Go.SW
abbrev errV (e : Nat) : Value := errW 37 e
end Go.Proofs.YtjcchjgkkplamaaGreatDoor
