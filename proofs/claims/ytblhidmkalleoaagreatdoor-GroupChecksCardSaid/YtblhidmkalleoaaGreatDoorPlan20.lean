/-
  Plans: Gone, and the reference's GoneAt.
-/
import Derived.Test.YtblhidmkalleoaaGreatDoorGrpA9
import Derived.Test.YtblhidmkalleoaaGreatDoorPlan12
namespace Go.Proofs.YtblhidmkalleoaaGreatDoor
open Go.RowKit Go.Maps
open tm (fitsB fits_any rfits_any untilF until_yes runtil_any winF window_any start_any fits_of)

end Go.Proofs.YtblhidmkalleoaaGreatDoor
