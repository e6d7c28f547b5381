/-Groups: (look).fine. -/
import Derived.Test.YtjhbeecmdgglgaaGreatDoorGrpW18
import Derived.Test.YtjhbeecmdgglgaaGreatDoorGrpW7
set_option linter.unusedSimpArgs false
set_option linter.unusedVariables false
namespace Go.Proofs.YtjhbeecmdgglgaaGreatDoor
open Go.RowKit
end Go.Proofs.YtjhbeecmdgglgaaGreatDoor
