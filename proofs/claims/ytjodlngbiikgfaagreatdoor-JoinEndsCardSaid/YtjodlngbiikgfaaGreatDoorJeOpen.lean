/-
  The law JoinEnds and its arguments.
-/
import Derived.Test.YtjodlngbiikgfaaGreatDoorGrpY5
import Derived.Test.YtjodlngbiikgfaaGreatDoorGrpK33
import Derived.Test.YtjodlngbiikgfaaGreatDoorGrpY2
namespace Go.Proofs.YtjodlngbiikgfaaGreatDoor
end Go.Proofs.YtjodlngbiikgfaaGreatDoor
