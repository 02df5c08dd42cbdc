/- Errors by their numbers. -/
import Derived.Test.YtjcchjgkkplamaaDoorSWV
import Derived.Test.YtjcchjgkkplamaaDoorProg
namespace Go.Proofs.YtjcchjgkkplamaaDoor
open Go.SW
abbrev errV (e : Nat) : Value := errW 37 e
end Go.Proofs.YtjcchjgkkplamaaDoor
