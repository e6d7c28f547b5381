/-Plain law of groups: the view of groups, row by row; the figures of good groups. Plans: the reference's OutOf; sameInts. Plans: the reference's KeyFor -/
import Derived.Test.YtjhbeecmdgglgaaGreatDoorGrpV12
import Derived.Test.YtjhbeecmdgglgaaGreatDoorGrpV20
import Derived.Test.YtjhbeecmdgglgaaGreatDoorGrpV10
import Derived.Test.YtjhbeecmdgglgaaGreatDoorGrpV30
import Derived.Test.YtjhbeecmdgglgaaGreatDoorGrpV27
set_option linter.unusedSimpArgs false
set_option linter.unusedVariables false
namespace Go.Proofs.YtjhbeecmdgglgaaGreatDoor
structure VA (p:Pl) (G:List Gp) (k:Nat) (A:AV):Prop where
 eq:A=(G.take k).foldl (fun A g=>(addR A (rowG p g) 1).1) []
 rises:Rises A
 nums: ∀q∈A,1≤q.2∧q.2≤(k:Int)
 len:A.length≤k
end Go.Proofs.YtjhbeecmdgglgaaGreatDoor
namespace Go.Proofs.YtjhbeecmdgglgaaGreatDoor
open Go.RowKit Go.Maps
end Go.Proofs.YtjhbeecmdgglgaaGreatDoor
namespace Go.Proofs.YtjhbeecmdgglgaaGreatDoor
open Go.RowKit Go.Maps
end Go.Proofs.YtjhbeecmdgglgaaGreatDoor
namespace Go.Proofs.YtjhbeecmdgglgaaGreatDoor
open Go.RowKit Go.Maps
end Go.Proofs.YtjhbeecmdgglgaaGreatDoor
