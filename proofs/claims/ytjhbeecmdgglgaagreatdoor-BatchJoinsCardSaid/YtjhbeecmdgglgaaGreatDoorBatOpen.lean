/-
  Batches: what the frames of the laws import.
-/
import Derived.Test.YtjhbeecmdgglgaaGreatDoorGrpW42
