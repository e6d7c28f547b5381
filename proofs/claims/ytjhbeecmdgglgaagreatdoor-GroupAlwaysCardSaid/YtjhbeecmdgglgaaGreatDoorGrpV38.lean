/-Plans: Gone, and the reference's GoneAt. -/
import Derived.Test.YtjhbeecmdgglgaaGreatDoorGrpV10
import Derived.Test.YtjhbeecmdgglgaaGreatDoorGrpV33
set_option linter.unusedSimpArgs false
set_option linter.unusedVariables false
namespace Go.Proofs.YtjhbeecmdgglgaaGreatDoor
open Go.RowKit Go.Maps
end Go.Proofs.YtjhbeecmdgglgaaGreatDoor
