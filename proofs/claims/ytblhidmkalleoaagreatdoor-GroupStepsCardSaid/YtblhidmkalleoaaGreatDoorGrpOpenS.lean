/-
  Groups: what the frames of GroupSteps import.
-/
import Derived.Test.YtblhidmkalleoaaGreatDoorGrpT39
