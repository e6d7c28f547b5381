/-Two rows joined (the reference's Both). -/
import Derived.Test.YtjhbeecmdgglgaaGreatDoorGrpW23
set_option linter.unusedSimpArgs false
set_option linter.unusedVariables false
namespace Go.Proofs.YtjhbeecmdgglgaaGreatDoor
open Go.RowKit
set_option maxHeartbeats 1000000 in
set_option maxRecDepth 10000 in
theorem both_any (va vb:Value)(a b:List Val)(w:World)(ha:Sl w va a.length (rowCells a))(hb:Sl w vb b.length (rowCells b))(hla:a.length≤1000000)(hlb:b.length≤1000000):
 Calls Tryz.prog 20 #[va,vb] w fun e w'=> ∃v',e= .returned v'∧w'.ownsRow w.heap.size 68 3 v' (a++b).length (rowCells (a++b))∧Below w.heap.size w w':=by
 have HB:=Lib.hid hb;have HC:=Lib.hid (copy_own va a w ha (by omega));have HLB:=Lib.hid (rowCells_len b);obtain⟨A0,c0,rfl,-⟩:=ha;obtain⟨A1,c1,rfl,-⟩:=hb;go_enter Tryz.func20,Tryz.ntmps20
 go_wp2_with fail
 refine Calls.mono (by with_reducible exact HC.out) ?_;rintro e w1 ⟨v1,rfl,hown1,hb1⟩;have HO1:=Lib.hid hown1;have HS:=Lib.hid (HB.out.below hb1);have hs1:=hb1.size;clear hown1
 go_wp2_with (at_builtin;refine wpList_app rfl (.tmp 6) (.tmp 7) 43 rfl w.heap.size 68 3 32 Tryz.underlying43 valJ v1 a.length _ rfl HO1.out _ b.length (rowCells b) rfl HS.out HLB.out (rowCells_one b) (by unfold maxLen;omega) (by omega) hs1 ?_)
 intro v2 w2 hown2 hg2 hat2;have hb2:=hb1.grown hg2 hs1 (fun j hj=>own_ge HO1.out j hj);have HO2:Hid (w2.ownsRow w.heap.size 68 3 v2 (a++b).length (rowCells (a++b))):=Lib.hid (by rw[List.length_append,rcApp];exact hown2);clear hown2 hg2 hat2;go_wp2;go_ret;exact⟨_,rfl,HO2.out,hb2⟩
end Go.Proofs.YtjhbeecmdgglgaaGreatDoor
