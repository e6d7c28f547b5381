/-Plans: the reference's wrongForm. -/
import Derived.Test.YtjhbeecmdgglgaaGreatDoorGrpV30
set_option linter.unusedSimpArgs false
set_option linter.unusedVariables false
namespace Go.Proofs.YtjhbeecmdgglgaaGreatDoor
open Go.RowKit Go.Maps
end Go.Proofs.YtjhbeecmdgglgaaGreatDoor
