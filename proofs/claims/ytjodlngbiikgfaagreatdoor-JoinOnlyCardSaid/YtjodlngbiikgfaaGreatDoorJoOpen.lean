/-
  The law JoinOnly and its arguments.
-/
import Derived.Test.YtjodlngbiikgfaaGreatDoorGrpK32
import Derived.Test.YtjodlngbiikgfaaGreatDoorGrpK33
namespace Go.Proofs.YtjodlngbiikgfaaGreatDoor
end Go.Proofs.YtjodlngbiikgfaaGreatDoor
