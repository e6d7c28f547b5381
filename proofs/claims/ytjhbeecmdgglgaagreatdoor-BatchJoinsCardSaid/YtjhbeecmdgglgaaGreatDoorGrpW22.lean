/-Groups: Check. -/
import Derived.Test.YtjhbeecmdgglgaaGreatDoorGrpW21
import Derived.Test.YtjhbeecmdgglgaaGreatDoorGrpW11
set_option linter.unusedSimpArgs false
set_option linter.unusedVariables false
namespace Go.Proofs.YtjhbeecmdgglgaaGreatDoor
open Go.RowKit
end Go.Proofs.YtjhbeecmdgglgaaGreatDoor
