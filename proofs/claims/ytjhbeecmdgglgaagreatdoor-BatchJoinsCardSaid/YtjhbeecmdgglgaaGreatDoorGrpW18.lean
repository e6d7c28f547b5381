/-Groups: (look).bag. -/
import Derived.Test.YtjhbeecmdgglgaaGreatDoorGrpW17
import Derived.Test.YtjhbeecmdgglgaaGreatDoorGrpW1
import Derived.Test.YtjhbeecmdgglgaaGreatDoorGrpW6
set_option linter.unusedSimpArgs false
set_option linter.unusedVariables false
namespace Go.Proofs.YtjhbeecmdgglgaaGreatDoor
open Go.RowKit
end Go.Proofs.YtjhbeecmdgglgaaGreatDoor
