/-
  Groups: what the frames of GroupChecks import.
-/
import Derived.Test.YtblhidmkalleoaaGreatDoorGrpA19
