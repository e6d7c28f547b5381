/-Views: the walk of the reference's CheckView. -/
import Derived.Test.YtjhbeecmdgglgaaGreatDoorGrpW12
import Derived.Test.YtjhbeecmdgglgaaGreatDoorGrpW1
set_option linter.unusedSimpArgs false
set_option linter.unusedVariables false
namespace Go.Proofs.YtjhbeecmdgglgaaGreatDoor
open Go.RowKit
end Go.Proofs.YtjhbeecmdgglgaaGreatDoor
