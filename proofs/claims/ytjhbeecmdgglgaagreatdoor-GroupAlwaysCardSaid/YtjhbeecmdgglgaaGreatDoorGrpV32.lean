/-Plans: the reference's wrongKind, wrongRange, wrongMany, once. -/
import Derived.Test.YtjhbeecmdgglgaaGreatDoorGrpV10
set_option linter.unusedSimpArgs false
set_option linter.unusedVariables false
namespace Go.Proofs.YtjhbeecmdgglgaaGreatDoor
open Go.RowKit
end Go.Proofs.YtjhbeecmdgglgaaGreatDoor
