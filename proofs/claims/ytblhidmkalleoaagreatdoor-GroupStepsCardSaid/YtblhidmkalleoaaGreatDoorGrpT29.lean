/-Plans: Gone, and the reference's GoneAt. -/
import Derived.Test.YtblhidmkalleoaaGreatDoorGrpT11
import Derived.Test.YtblhidmkalleoaaGreatDoorGrpT28
set_option linter.unusedSimpArgs false
set_option linter.unusedVariables false
namespace Go.Proofs.YtblhidmkalleoaaGreatDoor
open Go.RowKit Go.Maps
end Go.Proofs.YtblhidmkalleoaaGreatDoor
