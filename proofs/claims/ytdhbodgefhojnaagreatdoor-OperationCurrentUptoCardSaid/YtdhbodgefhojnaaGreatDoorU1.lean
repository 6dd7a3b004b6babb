/- A part of the proof that OperationCurrent returns true and leaves its arguments as they were, for every input of bounded size. -/
import Derived.Shelf.SlSorted.Search
import Derived.Test.YtdhbodgefhojnaaGreatDoorProg
set_option linter.all false

namespace Go.Proofs
open Go.Shelf
end Go.Proofs
