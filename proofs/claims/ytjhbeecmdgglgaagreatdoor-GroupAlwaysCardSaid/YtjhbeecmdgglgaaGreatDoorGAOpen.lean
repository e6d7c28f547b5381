/-
  Groups: what the frame of GroupAlways imports.
-/
import Derived.Test.YtjhbeecmdgglgaaGreatDoorGrpV40
import Derived.Test.YtjhbeecmdgglgaaGreatDoorGrpV41
