/-Plans: planBegun. The reference's FoldIn. What must be in any case: the plain facts. Groups: what groupBegun's events come to. Groups: groupBegun. -/
import Derived.Test.YtjhbeecmdgglgaaGreatDoorGrpV6
import Derived.Test.YtjhbeecmdgglgaaGreatDoorGrpV37
import Derived.Test.YtjhbeecmdgglgaaGreatDoorGrpV38
import Derived.Test.YtjhbeecmdgglgaaGreatDoorGrpV19
import Derived.Test.YtjhbeecmdgglgaaGreatDoorGrpV9
import Derived.Test.YtjhbeecmdgglgaaGreatDoorGrpV24
import Derived.Test.YtjhbeecmdgglgaaGreatDoorGrpV36
import Derived.Test.YtjhbeecmdgglgaaGreatDoorGrpV20
import Derived.Test.YtjhbeecmdgglgaaGreatDoorGrpV7
set_option linter.unusedSimpArgs false
set_option linter.unusedVariables false
namespace Go.Proofs.YtjhbeecmdgglgaaGreatDoor
open Go.RowKit Go.Maps
theorem two_vals (W:World)(a b:Int):Sl (W.alloc (.cells #[.int .i64 2,.int .i64 a,.string ⟨#[]⟩,.int .i64 2,.int .i64 b,.string ⟨#[]⟩] 68)) (.slice (some ⟨W.heap.size,0,none⟩) 2 2) 2 (rowCells [numV a,numV b]):=
 Sl.block (Blk.new W 68 #[.int .i64 2,.int .i64 a,.string ⟨#[]⟩,.int .i64 2,.int .i64 b,.string ⟨#[]⟩]) 2 2 (Nat.le_refl _) (by decide)
set_option maxHeartbeats 400000 in
set_option maxRecDepth 10000 in
theorem lawRow_any (a b:Int)(w:World):Calls Tryz.prog 42 #[.int .i64 a,.int .i64 b] w fun e w'=> ∃v,e= .returned v∧Sl w' v 2 (rowCells [numV a,numV b])∧Below w.heap.size w w':=by
 go_enter Tryz.func42,Tryz.ntmps42
 go_wp2_with fail
 refine(num_any _ _).mono ?_;rintro e w1 ⟨rfl,hb1⟩
 go_wp2_with fail
 refine(num_any _ _).mono ?_;rintro e w2 ⟨rfl,hb2⟩;have hB:=below_trans hb1 hb2;have HS:=Lib.hid (two_vals w2 a b);go_wp2;go_ret;exact⟨_,rfl,HS.out,hB.alloc hB.size _⟩
def simpleP (vl vr vk vq:Value):Pl:=⟨1,4,-5,5,0,2,vl,vr,vk,vq,false,.slice none 0 0,.slice none 0 0,[2,2],[2,2],[0],[0],[],[]⟩
def countedP (vl vr vk vq vg va:Value):Pl:=⟨1,4,-5,5,0,2,vl,vr,vk,vq,true,vg,va,[2,2],[2,2],[0],[0],[0],[(1,0),(2,1)]⟩
theorem counted_fit (vl vr vk vq vg va:Value):(countedP vl vr vk vq vg va).fit:=⟨by simp[countedP,I64],by simp[countedP,I64],by simp[countedP,I64],by simp[countedP,I64],by simp[countedP,I64],by simp[countedP]⟩
theorem counted_check (vl vr vk vq vg va:Value):checkP (countedP vl vr vk vq vg va)=0:=by rfl
theorem lit_sl (W:World)(l:List Int)(hl:l.length≤1000)(cs:Array Value)(h:cs.toList=intCells l):Sl (W.alloc (.cells cs 3)) (.slice (some ⟨W.heap.size,0,none⟩) l.length l.length) l.length (intCells l):=by
 rw[←h];exact Sl.block (Blk.new W 3 cs) _ _ (Nat.le_refl _) (by unfold maxLen;omega)
set_option maxHeartbeats 4000000 in
set_option maxRecDepth 10000 in
theorem simple_any (w:World):Calls Tryz.prog 41 #[] w fun e w'=> ∃vl vr vk vq,e= .returned (.agg #[.int .i64 1,.int .i64 4,.int .i64 (-5),.int .i64 5,.int .i64 0,.int .i64 2,vl,vr,vk,vq,.bool false,.slice none 0 0,.slice none 0 0])∧(simpleP vl vr vk vq).ok w'∧(∀k,vl.ownBlock=some k→w.heap.size≤k)∧(∀k,vr.ownBlock=some k→w.heap.size≤k)∧(∀k,vk.ownBlock=some k→w.heap.size≤k)∧(∀k,vq.ownBlock=some k→w.heap.size≤k)∧Below w.heap.size w w':=by
 go_enter Tryz.func41,Tryz.ntmps41
 go_wp2;have S1:=lit_sl (w.alloc (.cells #[.int .i64 1,.int .i64 4,.int .i64 (-5),.int .i64 5,.int .i64 0,.int .i64 2,.slice (some ⟨w.heap.size+1,0,none⟩) 2 2,.slice (some ⟨w.heap.size+1,0,none⟩) 2 2,.slice (some ⟨w.heap.size+1+1,0,none⟩) 1 1,.slice (some ⟨w.heap.size+1+1+1,0,none⟩) 1 1,.bool false,.slice none 0 0,.slice none 0 0] 25)) [2,2] (by decide) #[.int .i64 2,.int .i64 2] rfl;have S2:=lit_sl ((w.alloc (.cells #[.int .i64 1,.int .i64 4,.int .i64 (-5),.int .i64 5,.int .i64 0,.int .i64 2,.slice (some ⟨w.heap.size+1,0,none⟩) 2 2,.slice (some ⟨w.heap.size+1,0,none⟩) 2 2,.slice (some ⟨w.heap.size+1+1,0,none⟩) 1 1,.slice (some ⟨w.heap.size+1+1+1,0,none⟩) 1 1,.bool false,.slice none 0 0,.slice none 0 0] 25)).alloc (.cells #[.int .i64 2,.int .i64 2] 3)) [0] (by decide) #[.int .i64 0] rfl;have S3:=lit_sl (((w.alloc (.cells #[.int .i64 1,.int .i64 4,.int .i64 (-5),.int .i64 5,.int .i64 0,.int .i64 2,.slice (some ⟨w.heap.size+1,0,none⟩) 2 2,.slice (some ⟨w.heap.size+1,0,none⟩) 2 2,.slice (some ⟨w.heap.size+1+1,0,none⟩) 1 1,.slice (some ⟨w.heap.size+1+1+1,0,none⟩) 1 1,.bool false,.slice none 0 0,.slice none 0 0] 25)).alloc (.cells #[.int .i64 2,.int .i64 2] 3)).alloc (.cells #[.int .i64 0] 3)) [0] (by decide) #[.int .i64 0] rfl;have hB:=below_trans (below_trans (below_trans (below_alloc w (.cells #[.int .i64 1,.int .i64 4,.int .i64 (-5),.int .i64 5,.int .i64 0,.int .i64 2,.slice (some ⟨w.heap.size+1,0,none⟩) 2 2,.slice (some ⟨w.heap.size+1,0,none⟩) 2 2,.slice (some ⟨w.heap.size+1+1,0,none⟩) 1 1,.slice (some ⟨w.heap.size+1+1+1,0,none⟩) 1 1,.bool false,.slice none 0 0,.slice none 0 0] 25)) (below_alloc _ (.cells #[.int .i64 2,.int .i64 2] 3))) (below_alloc _ (.cells #[.int .i64 0] 3))) (below_alloc _ (.cells #[.int .i64 0] 3));have S1':=(S1.below (below_alloc _ (.cells #[.int .i64 0] 3))).below (below_alloc _ (.cells #[.int .i64 0] 3));have S2':=S2.below (below_alloc _ (.cells #[.int .i64 0] 3));simp only[World.size_alloc]at S1' S2' S3;refine bodyPost_ret (v:= .agg #[.int .i64 1,.int .i64 4,.int .i64 (-5),.int .i64 5,.int .i64 0,.int .i64 2,.slice (some ⟨w.heap.size+1,0,none⟩) 2 2,.slice (some ⟨w.heap.size+1,0,none⟩) 2 2,.slice (some ⟨w.heap.size+1+1,0,none⟩) 1 1,.slice (some ⟨w.heap.size+1+1+1,0,none⟩) 1 1,.bool false,.slice none 0 0,.slice none 0 0]) (by simp[results,Tryz.results41,go_sem]) rfl ?_;refine⟨_,_,_,_,rfl,⟨S1',S1',S2',S3,Sl.nil_ _,Sl.nil_ _⟩,fresh_some (by omega),fresh_some (by omega),fresh_some (by omega),fresh_some (by omega),hB⟩
theorem two_aggs (W:World):Sl (W.alloc (.cells #[.int .i64 1,.int .i64 0,.int .i64 2,.int .i64 1] 94)) (.slice (some ⟨W.heap.size,0,none⟩) 2 2) 2 (aggCells [(1,0),(2,1)]):=
 Sl.block (Blk.new W 94 #[.int .i64 1,.int .i64 0,.int .i64 2,.int .i64 1]) 2 2 (Nat.le_refl _) (by decide)
theorem Sl.sets {w:World}{v:Value}{n g:Nat}{cs:List Value}(h:Sl w v n cs)(hp: ∀k,v.ownBlock=some k→k≠g)(l:List (Nat×Value)):Sl (l.foldl (fun w q=>w.setCell ⟨g,q.1,none⟩ q.2) w) v n cs:=by
 induction l generalizing w with
 |nil=>exact h
 |cons q l ih=>exact ih (h.setCell hp q.2)
theorem below_sets {B g:Nat}{a w:World}(h:Below B a w)(hg:B≤g)(l:List (Nat×Value)):Below B a (l.foldl (fun w q=>w.setCell ⟨g,q.1,none⟩ q.2) w):=by
 induction l generalizing w with
 |nil=>exact h
 |cons q l ih=>exact ih (h.setCell hg q.2)
set_option maxHeartbeats 4000000 in
set_option maxRecDepth 10000 in
theorem counted_any (w:World):Calls Tryz.prog 43 #[] w fun e w'=> ∃vl vr vk vq vg va,e= .returned (.agg #[.int .i64 1,.int .i64 4,.int .i64 (-5),.int .i64 5,.int .i64 0,.int .i64 2,vl,vr,vk,vq,.bool true,vg,va])∧(countedP vl vr vk vq vg va).ok w'∧Below w.heap.size w w':=by
 have hB:=below_alloc w (.cells #[.int .i64 0,.int .i64 0,.int .i64 0,.int .i64 0,.int .i64 0,.int .i64 0,.slice none 0 0,.slice none 0 0,.slice none 0 0,.slice none 0 0,.bool false,.slice none 0 0,.slice none 0 0] 25);have K0:=Blk.new w 25 #[.int .i64 0,.int .i64 0,.int .i64 0,.int .i64 0,.int .i64 0,.int .i64 0,.slice none 0 0,.slice none 0 0,.slice none 0 0,.slice none 0 0,.bool false,.slice none 0 0,.slice none 0 0];go_enter Tryz.func43,Tryz.ntmps43
 go_wp2_with fail
 refine(simple_any _).mono ?_;rintro e w1 ⟨vl,vr,vk,vq,rfl,hok,hl,hr,hk',hq,hb1⟩;have K1:=K0.below hb1;have HOK:=Lib.hid hok;obtain⟨⟨A0,c0,e0,-⟩,⟨A1,c1,e1,-⟩,⟨A2,c2,e2,-⟩,⟨A3,c3,e3,-⟩,-,-⟩:=hok;simp only[simpleP]at e0 e1 e2 e3;subst e0 e1 e2 e3;have K2:=((K1.alloc (.cells #[.int .i64 1,.int .i64 4,.int .i64 (-5),.int .i64 5,.int .i64 0,.int .i64 2,.slice A0 2 c0,.slice A1 2 c1,.slice A2 1 c2,.slice A3 1 c3,.bool true,.slice (some ⟨w1.heap.size+1,0,none⟩) 1 1,.slice (some ⟨w1.heap.size+1+1,0,none⟩) 2 2] 25)).alloc (.cells #[.int .i64 0] 3)).alloc (.cells #[.int .i64 1,.int .i64 0,.int .i64 2,.int .i64 1] 94);obtain⟨y0,y1,y2,y3,y4,y5,y6,y7,y8,y9,y10,y11,y12⟩:=pl_cells K2;have f0:=K2.free 0;have f1:=K2.free 1;have f2:=K2.free 2;have f3:=K2.free 3;have f4:=K2.free 4;have f5:=K2.free 5;have f6:=K2.free 6;have f7:=K2.free 7;have f8:=K2.free 8;have f9:=K2.free 9;have f10:=K2.free 10;have f11:=K2.free 11;have f12:=K2.free 12;go_wp2;have K3:Blk _ w.heap.size 25 #[.int .i64 1,.int .i64 4,.int .i64 (-5),.int .i64 5,.int .i64 0,.int .i64 2,.slice A0 2 c0,.slice A1 2 c1,.slice A2 1 c2,.slice A3 1 c3,.bool true,.slice (some ⟨w1.heap.size+1,0,none⟩) 1 1,.slice (some ⟨w1.heap.size+1+1,0,none⟩) 2 2]:=(((((((((((((K2.set_ 0 (.int .i64 1)).set_ 1 (.int .i64 4)).set_ 2 (.int .i64 (-5))).set_ 3 (.int .i64 5)).set_ 4 (.int .i64 0)).set_ 5 (.int .i64 2)).set_ 6 (.slice A0 2 c0)).set_ 7 (.slice A1 2 c1)).set_ 8 (.slice A2 1 c2)).set_ 9 (.slice A3 1 c3)).set_ 10 (.bool true)).set_ 11 (.slice (some ⟨w1.heap.size+1,0,none⟩) 1 1)).set_ 12 (.slice (some ⟨w1.heap.size+1+1,0,none⟩) 2 2));obtain⟨z0,z1,z2,z3,z4,z5,z6,z7,z8,z9,z10,z11,z12⟩:=pl_cells K3;refine bodyPost_ret (v:= .agg #[.int .i64 1,.int .i64 4,.int .i64 (-5),.int .i64 5,.int .i64 0,.int .i64 2,.slice A0 2 c0,.slice A1 2 c1,.slice A2 1 c2,.slice A3 1 c3,.bool true,.slice (some ⟨w1.heap.size+1,0,none⟩) 1 1,.slice (some ⟨w1.heap.size+1+1,0,none⟩) 2 2]) (by simp[results,Tryz.results43,go_sem,z0,z1,z2,z3,z4,z5,z6,z7,z8,z9,z10,z11,z12]) rfl ?_;have hw1:w.heap.size+1≤w1.heap.size:=by have:=hb1.size;simpa using this
 have b1:=below_alloc w1 (.cells #[.int .i64 1,.int .i64 4,.int .i64 (-5),.int .i64 5,.int .i64 0,.int .i64 2,.slice A0 2 c0,.slice A1 2 c1,.slice A2 1 c2,.slice A3 1 c3,.bool true,.slice (some ⟨w1.heap.size+1,0,none⟩) 1 1,.slice (some ⟨w1.heap.size+1+1,0,none⟩) 2 2] 25);have b2:=below_trans b1 (below_alloc _ (.cells #[.int .i64 0] 3));have b3:=below_trans b2 (below_alloc _ (.cells #[.int .i64 1,.int .i64 0,.int .i64 2,.int .i64 1] 94));have SG:=(lit_sl (w1.alloc (.cells #[.int .i64 1,.int .i64 4,.int .i64 (-5),.int .i64 5,.int .i64 0,.int .i64 2,.slice A0 2 c0,.slice A1 2 c1,.slice A2 1 c2,.slice A3 1 c3,.bool true,.slice (some ⟨w1.heap.size+1,0,none⟩) 1 1,.slice (some ⟨w1.heap.size+1+1,0,none⟩) 2 2] 25)) [0] (by decide) #[.int .i64 0] rfl).below (below_alloc _ (.cells #[.int .i64 1,.int .i64 0,.int .i64 2,.int .i64 1] 94));have SA:=two_aggs ((w1.alloc (.cells #[.int .i64 1,.int .i64 4,.int .i64 (-5),.int .i64 5,.int .i64 0,.int .i64 2,.slice A0 2 c0,.slice A1 2 c1,.slice A2 1 c2,.slice A3 1 c3,.bool true,.slice (some ⟨w1.heap.size+1,0,none⟩) 1 1,.slice (some ⟨w1.heap.size+1+1,0,none⟩) 2 2] 25)).alloc (.cells #[.int .i64 0] 3));simp only[World.size_alloc]at SG SA;have hok:=HOK.out;refine⟨_,_,_,_,_,_,rfl,⟨?_,?_,?_,?_,?_,?_⟩,?_⟩
 ·exact(hok.l.below b3).sets (fun k hk=>by have:=hl k hk;simp at this;omega) [(0,.int .i64 1),(1,.int .i64 4),(2,.int .i64 (-5)),(3,.int .i64 5),(4,.int .i64 0),(5,.int .i64 2),(6,.slice A0 2 c0),(7,.slice A1 2 c1),(8,.slice A2 1 c2),(9,.slice A3 1 c3),(10,.bool true),(11,.slice (some ⟨w1.heap.size+1,0,none⟩) 1 1),(12,.slice (some ⟨w1.heap.size+1+1,0,none⟩) 2 2)]
 ·exact(hok.r.below b3).sets (fun k hk=>by have:=hr k hk;simp at this;omega) [(0,.int .i64 1),(1,.int .i64 4),(2,.int .i64 (-5)),(3,.int .i64 5),(4,.int .i64 0),(5,.int .i64 2),(6,.slice A0 2 c0),(7,.slice A1 2 c1),(8,.slice A2 1 c2),(9,.slice A3 1 c3),(10,.bool true),(11,.slice (some ⟨w1.heap.size+1,0,none⟩) 1 1),(12,.slice (some ⟨w1.heap.size+1+1,0,none⟩) 2 2)]
 ·exact(hok.k.below b3).sets (fun k hk=>by have:=hk' k hk;simp at this;omega) [(0,.int .i64 1),(1,.int .i64 4),(2,.int .i64 (-5)),(3,.int .i64 5),(4,.int .i64 0),(5,.int .i64 2),(6,.slice A0 2 c0),(7,.slice A1 2 c1),(8,.slice A2 1 c2),(9,.slice A3 1 c3),(10,.bool true),(11,.slice (some ⟨w1.heap.size+1,0,none⟩) 1 1),(12,.slice (some ⟨w1.heap.size+1+1,0,none⟩) 2 2)]
 ·exact(hok.q.below b3).sets (fun k hk=>by have:=hq k hk;simp at this;omega) [(0,.int .i64 1),(1,.int .i64 4),(2,.int .i64 (-5)),(3,.int .i64 5),(4,.int .i64 0),(5,.int .i64 2),(6,.slice A0 2 c0),(7,.slice A1 2 c1),(8,.slice A2 1 c2),(9,.slice A3 1 c3),(10,.bool true),(11,.slice (some ⟨w1.heap.size+1,0,none⟩) 1 1),(12,.slice (some ⟨w1.heap.size+1+1,0,none⟩) 2 2)]
 ·exact SG.sets (fun k hk=>by simp[Value.ownBlock]at hk;omega) [(0,.int .i64 1),(1,.int .i64 4),(2,.int .i64 (-5)),(3,.int .i64 5),(4,.int .i64 0),(5,.int .i64 2),(6,.slice A0 2 c0),(7,.slice A1 2 c1),(8,.slice A2 1 c2),(9,.slice A3 1 c3),(10,.bool true),(11,.slice (some ⟨w1.heap.size+1,0,none⟩) 1 1),(12,.slice (some ⟨w1.heap.size+1+1,0,none⟩) 2 2)]
 ·exact SA.sets (fun k hk=>by simp[Value.ownBlock]at hk;omega) [(0,.int .i64 1),(1,.int .i64 4),(2,.int .i64 (-5)),(3,.int .i64 5),(4,.int .i64 0),(5,.int .i64 2),(6,.slice A0 2 c0),(7,.slice A1 2 c1),(8,.slice A2 1 c2),(9,.slice A3 1 c3),(10,.bool true),(11,.slice (some ⟨w1.heap.size+1,0,none⟩) 1 1),(12,.slice (some ⟨w1.heap.size+1+1,0,none⟩) 2 2)]
 ·exact below_sets (below_trans (below_trans hB hb1) b3) (Nat.le_refl _) [(0,.int .i64 1),(1,.int .i64 4),(2,.int .i64 (-5)),(3,.int .i64 5),(4,.int .i64 0),(5,.int .i64 2),(6,.slice A0 2 c0),(7,.slice A1 2 c1),(8,.slice A2 1 c2),(9,.slice A3 1 c3),(10,.bool true),(11,.slice (some ⟨w1.heap.size+1,0,none⟩) 1 1),(12,.slice (some ⟨w1.heap.size+1+1,0,none⟩) 2 2)]
end Go.Proofs.YtjhbeecmdgglgaaGreatDoor
namespace Go.Proofs.YtjhbeecmdgglgaaGreatDoor
open Go.RowKit Go.Maps
end Go.Proofs.YtjhbeecmdgglgaaGreatDoor
namespace Go.Proofs.YtjhbeecmdgglgaaGreatDoor
open Go.RowKit Go.Maps
theorem num_check (n:Int):checkV (numV n)=0:=by unfold checkV numV;simp[ByteArray.toList_eq]
theorem num_err (n:Int):keyErr [numV n]=0:=by unfold keyErr;simp[firstNZ,num_check]
theorem num_fine (n:Int)(h: -9223372036854775808≤n∧n≤9223372036854775807):Fine [numV n]:=by
 have:=nums_fine n n h h;exact⟨fun x hx=>this.small x (by simp at hx;simp[hx]),fun x hx=>this.nums x (by simp at hx;simp[hx])⟩
theorem num_good (n:Int)(h: -9223372036854775808≤n∧n≤9223372036854775807):GoodR [numV n]:=goodR_of (num_fine n h) (num_err n)
end Go.Proofs.YtjhbeecmdgglgaaGreatDoor
namespace Go.Proofs.YtjhbeecmdgglgaaGreatDoor
open Go.RowKit
def gr1:List Val:=[numV 7,numV 1,numV 7,numV 2]
def gr2:List Val:=[numV 7,numV 5,numV 7,numV 2]
def gB (va vb:Value):List Chn:=[⟨va,gr1,1⟩,⟨vb,gr2,1⟩]
def gG0:Gp:=⟨[numV 7],2,[[],[⟨numV 1,1⟩,⟨numV 5,1⟩]]⟩
def gRow:List Val:=[numV 7,numV 2,numV 6]
theorem nums_err (l:List Int)(h:l.length≤8):keyErr (l.map numV)=0:=by
 unfold keyErr;rw[if_neg (by rw[List.length_map];omega)]
 exact firstNZ_none fun x hx=>by
  obtain⟨y,hy,rfl⟩:=List.mem_map.1 hx;obtain⟨z,-,rfl⟩:=List.mem_map.1 hy;exact num_check z
theorem gr_err1:keyErr gr1=0:=nums_err [7,1,7,2] (by simp)
theorem gr_err2:keyErr gr2=0:=nums_err [7,5,7,2] (by simp)
theorem g7_err:keyErr [numV 7]=0:=nums_err [7] (by simp)
theorem numK (n:Int):(numV n).k=2:=rfl
theorem gB_form (va vb:Value):formC (gB va vb)=0:=by
 simp[formC,gB,errAt,kAt,gr_err1,gr_err2,firstNZ,List.range,List.range.loop,btw]
theorem n77:rowsF [numV 7] [numV 7]=0:=rowsF_self (num_good 7 (by omega))
theorem c15:cmpV (numV 1) (numV 5)= -1:=by rfl
theorem c51:cmpV (numV 5) (numV 1)=1:=by rfl
theorem gB_turn (vl vr vk vq vg va ua ub:Value):turnAll (countedP vl vr vk vq vg va) [] (ac (gB ua ub))=([gG0],0):=by
 simp[gB,ac,turnAll,turnG,countedP,cellsG,gr1,gr2,placeG,hasG,stepI,bagsG,tallyG,gp0,n77,c15,c51,gG0]
theorem gB_fig (vl vr vk vq vg va:Value):rowG (countedP vl vr vk vq vg va) gG0=gRow:=by
 simp[rowG,countedP,gG0,figG,solid,numV,sumG,wrapI,IntKind.wrap_i64,gRow]
theorem gB_step (vl vr vk vq vg va ua ub:Value):stepG (countedP vl vr vk vq vg va) [] (gB ua ub)=([gG0],[(1,gRow)],0):=by
 unfold stepG
 have h1:checkG (countedP vl vr vk vq vg va) []=0:=by
  unfold checkG;rw[counted_check];rfl
 have h2:typesG (countedP vl vr vk vq vg va) (ac (gB ua ub))=0:=by rfl
 rw[h1,gB_form,h2,gB_turn];simp[changedG,gB_fig]
theorem gG_check (vl vr vk vq vg va:Value):checkG (countedP vl vr vk vq vg va) [gG0]=0:=by
 unfold checkG;rw[counted_check]
 have h:groupB (countedP vl vr vk vq vg va) gG0=true:=by
  simp[groupB,gG0,g7_err,ownT,allT,countedP,fitOne,btw,bagB,bagG,num_check,prevOk,c15,numK]
 rw[if_neg (by simp),if_neg (by simp[countedP]),if_neg (by simp),if_pos (by rw[List.all_cons,h];rfl)]
theorem gG_view (vl vr vk vq vg va:Value):viewS (countedP vl vr vk vq vg va) [gG0]=[(gRow,1)]:=by
 unfold viewS;rw[gG_check,if_pos rfl];simp[viewG,insG,foldR,addR,stepI,lookA,hasA,putA,gB_fig]
end Go.Proofs.YtjhbeecmdgglgaaGreatDoor
namespace Go.Proofs.YtjhbeecmdgglgaaGreatDoor
open Go.RowKit
set_option maxHeartbeats 1000000 in
set_option maxRecDepth 10000 in
theorem both_any (va vb:Value)(a b:List Val)(w:World)(ha:Sl w va a.length (rowCells a))(hb:Sl w vb b.length (rowCells b))(hla:a.length≤1000000)(hlb:b.length≤1000000):
 Calls Tryz.prog 20 #[va,vb] w fun e w'=> ∃v',e= .returned v'∧w'.ownsRow w.heap.size 68 3 v' (a++b).length (rowCells (a++b))∧Below w.heap.size w w':=by
 have HB:=Lib.hid hb;have HC:=Lib.hid (copy_own va a w ha (by omega));have HLB:=Lib.hid (rowCells_len b);obtain⟨A0,c0,rfl,-⟩:=ha;obtain⟨A1,c1,rfl,-⟩:=hb;go_enter Tryz.func20,Tryz.ntmps20
 go_wp2_with fail
 refine Calls.mono (by with_reducible exact HC.out) ?_;rintro e w1 ⟨v1,rfl,hown1,hb1⟩;have HO1:=Lib.hid hown1;have HS:=Lib.hid (HB.out.below hb1);have hs1:=hb1.size;clear hown1
 go_wp2_with (at_builtin;refine wpList_app rfl (.tmp 6) (.tmp 7) 43 rfl w.heap.size 68 3 32 Tryz.underlying43 valJ v1 a.length _ rfl HO1.out _ b.length (rowCells b) rfl HS.out HLB.out (rowCells_one b) (by unfold maxLen;omega) (by omega) hs1 ?_)
 intro v2 w2 hown2 hg2 hat2;have hb2:=hb1.grown hg2 hs1 (fun j hj=>own_ge HO1.out j hj);have HO2:Hid (w2.ownsRow w.heap.size 68 3 v2 (a++b).length (rowCells (a++b))):=Lib.hid (by rw[List.length_append,rcApp];exact hown2);clear hown2 hg2 hat2;go_wp2;go_ret;exact⟨_,rfl,HO2.out,hb2⟩
theorem fine_nums (l:List Int)(h: ∀n∈l,-9223372036854775808≤n∧n≤9223372036854775807):Fine (l.map numV):=⟨fun x hx=>by
 obtain⟨n,hn,rfl⟩:=List.mem_map.1 hx;exact(num_fine n (h n hn)).1 _ (by simp),fun x hx=>by
 obtain⟨n,hn,rfl⟩:=List.mem_map.1 hx;exact(num_fine n (h n hn)).2 _ (by simp)⟩
theorem gms_one {w:World}{v:Value}{G:List Gm}(h:Gms w v G)(e:gps G=[gG0]): ∀x∈G,x.fit:=fun x hx=>by
 have h1:x.gp∈gps G:=List.mem_map.2 ⟨x,hx,rfl⟩;rw[e,List.mem_singleton]at h1;have e1:x.r=[numV 7]:=congrArg Gp.r h1;have e2:x.bags.map (·.2)=[[],[⟨numV 1,1⟩,⟨numV 5,1⟩]]:=congrArg Gp.bags h1;have e3:x.n=2:=congrArg Gp.n h1;have hl:x.bags.length=2:=by have:=congrArg List.length e2;rwa[List.length_map]at this
 refine⟨⟨by rw[h1];exact num_fine 7 (by omega),by rw[h1];decide,fun b hb y hy=> ?_⟩,fun q hq=> ?_,by omega,by rw[e1];simp⟩
 ·rw[h1]at hb
  simp only[gG0,List.mem_cons,List.mem_nil_iff,or_false]at hb;rcases hb with rfl|rfl
  ·cases hy
  ·simp only[List.mem_cons,List.mem_nil_iff,or_false]at hy
   rcases hy with rfl|rfl
   ·exact⟨num_fine 1 (by omega),by simp⟩
   ·exact⟨num_fine 5 (by omega),by simp⟩
 ·have h2:q.2∈x.bags.map (·.2):=List.mem_map.2 ⟨q,hq,rfl⟩
  rw[e2]at h2;simp only[List.mem_cons,List.mem_nil_iff,or_false]at h2;rcases h2 with h2|h2<;>rw[h2]<;>simp
theorem three_vals (W:World)(a b c:Int):Sl (W.alloc (.cells #[.int .i64 2,.int .i64 a,.string ⟨#[]⟩,.int .i64 2,.int .i64 b,.string ⟨#[]⟩,.int .i64 2,.int .i64 c,.string ⟨#[]⟩] 68)) (.slice (some ⟨W.heap.size,0,none⟩) 3 3) 3 (rowCells [numV a,numV b,numV c]):=
 Sl.block (Blk.new W 68 #[.int .i64 2,.int .i64 a,.string ⟨#[]⟩,.int .i64 2,.int .i64 b,.string ⟨#[]⟩,.int .i64 2,.int .i64 c,.string ⟨#[]⟩]) 3 3 (Nat.le_refl _) (by decide)
set_option maxHeartbeats 8000000 in
set_option maxRecDepth 10000 in
theorem groupBegun_any (w:World)(hm:Mx w):Calls Tryz.prog 30 #[] w fun e w'=>e= .returned (.bool true)∧Below w.heap.size w w':=by
 have HM:=Lib.hid hm;clear hm;go_enter Tryz.func30,Tryz.ntmps30
 go_wp2_with fail
 refine(lawRow_any 7 1 _).mono ?_;rintro e w1 ⟨v1,rfl,hs1,B1⟩
 go_wp2_with fail
 refine(lawRow_any 7 2 _).mono ?_;rintro e w2 ⟨v2,rfl,hs2,hb2⟩;have B2:=below_trans B1 hb2;have HBO:=Lib.hid (both_any v1 v2 [numV 7,numV 1] [numV 7,numV 2] w2 (hs1.below hb2) hs2 (by simp) (by simp));clear hs1 hs2 hb2 B1
 go_wp2_with fail
 refine Calls.mono (by with_reducible exact HBO.out) ?_;rintro e w3 ⟨v3,rfl,ho3,hb3⟩;obtain⟨C3,n3,m3,rfl⟩:=own_slice ho3;have HS3:=Lib.hid (Sl.of_own ho3);have B3:=below_trans B2 hb3;clear ho3 hb3 B2 HBO
 go_wp2_with fail
 refine(lawRow_any 7 5 _).mono ?_;rintro e w4 ⟨v4,rfl,hs4,hb4⟩;have B4:=below_trans B3 hb4;have HS4:=Lib.hid (HS3.out.below hb4);clear hb4 B3 HS3
 go_wp2_with fail
 refine(lawRow_any 7 2 _).mono ?_;rintro e w5 ⟨v5,rfl,hs5,hb5⟩;have B5:=below_trans B4 hb5;have HS5:=Lib.hid (HS4.out.below hb5);have HBO:=Lib.hid (both_any v4 v5 [numV 7,numV 5] [numV 7,numV 2] w5 (hs4.below hb5) hs5 (by simp) (by simp));clear hs4 hs5 hb5 B4 HS4
 go_wp2_with fail
 refine Calls.mono (by with_reducible exact HBO.out) ?_;rintro e w6 ⟨v6,rfl,ho6,hb6⟩;obtain⟨C6,n6,m6,rfl⟩:=own_slice ho6;have HS6:=Lib.hid (Sl.of_own ho6);have B6:=below_trans B5 hb6
 have HC:Hid (Chs (w6.alloc (.cells #[.int .i64 1,.slice C3 n3 m3,.int .i64 1,.slice C6 n6 m6] 48)) (.slice (some ⟨w6.heap.size,0,none⟩) 2 2) (gB (.slice C3 n3 m3) (.slice C6 n6 m6))):=Lib.hid ⟨sl_pair (a:=⟨.slice C3 n3 m3,gr1,1⟩) (b:=⟨.slice C6 n6 m6,gr2,1⟩) (Blk.new w6 48 #[.int .i64 1,.slice C3 n3 m3,.int .i64 1,.slice C6 n6 m6]),fun c hc=>by
  simp only[gB,List.mem_cons,List.mem_nil_iff,or_false]at hc;rcases hc with rfl|rfl
  ·exact(HS5.out.below hb6).below (below_alloc _ _)
  ·exact HS6.out.below (below_alloc _ _)⟩
 have HF:Hid (FineC (gB (.slice C3 n3 m3) (.slice C6 n6 m6))):=Lib.hid ⟨fun c hc=>by
  simp only[gB,List.mem_cons,List.mem_nil_iff,or_false]at hc;rcases hc with rfl|rfl
  ·exact fine_nums [7,1,7,2] (by simp)
  ·exact fine_nums [7,5,7,2] (by simp),fun c hc=>by
  simp only[gB,List.mem_cons,List.mem_nil_iff,or_false]at hc;rcases hc with rfl|rfl<;>simp⟩
 have B7:=B6.alloc B6.size (.cells #[.int .i64 1,.slice C3 n3 m3,.int .i64 1,.slice C6 n6 m6] 48);clear ho6 hb6 B5 B6 HS5 HS6 HBO
 go_wp2_with fail
 refine(counted_any _).mono ?_;rintro e w8 ⟨vl,vr,vk,vq,vg,va,rfl,hok,hb8⟩;have B8:=below_trans B7 hb8;have HST:=Lib.hid (gstep_any (countedP vl vr vk vq vg va) (.slice none 0 0) [] (.slice (some ⟨w6.heap.size,0,none⟩) 2 2) (gB (.slice C3 n3 m3) (.slice C6 n6 m6)) w8 hok (counted_fit vl vr vk vq vg va) (Gms.nil w8) nofun (HC.out.below hb8) HF.out (HM.out.below B8));rw[show gps []=([]:List Gp)from rfl,gB_step]at HST;simp only[countedP]at HST;clear hok hb8 B7 HC HF
 go_wp2_with fail
 refine Calls.mono (by with_reducible exact HST.out) ?_;rintro e w9 ⟨v9,u9,G9,l9,rfl,hG9,hC9,hg9,ha9,hb9⟩;have B9:=below_trans B8 hb9;have HG9:=Lib.hid hG9;have HC9:=Lib.hid hC9;have HE9:=Lib.hid hg9;have HA9:=Lib.hid ha9;obtain⟨D9,d9,rfl,-⟩:=id hG9.sl;obtain⟨E9,e9,rfl,-⟩:=id hC9.sl;clear hG9 hC9 hg9 ha9 hb9 HST B8
 go_wp2_with fail
 refine(counted_any _).mono ?_;rintro e w10 ⟨ul,ur,uk,uq,ug,ua,rfl,hok,hb10⟩;have B10:=below_trans B9 hb10;have HVW:=Lib.hid (gview_any (countedP ul ur uk uq ug ua) (.slice D9 G9.length d9) G9 w10 hok (counted_fit ul ur uk uq ug ua) (HG9.out.below hb10) (gms_one HG9.out HE9.out) (HM.out.below B10));rw[HE9.out,gG_check,gG_view]at HVW;simp only[countedP]at HVW;have HC10:=Lib.hid (HC9.out.below hb10);clear hok hb10 B9 HC9 HG9
 go_wp2_with fail
 refine Calls.mono (by with_reducible exact HVW.out) ?_;rintro e w11 ⟨v11,l11,rfl,hV11,ha11,hb11⟩;have B11:=below_trans B10 hb11;have HV11:=Lib.hid hV11;have HA11:=Lib.hid ha11;obtain⟨F11,f11,rfl,-⟩:=id hV11.sl;have hl9:l9.length=1:=by rw[←ac_len,HA9.out];rfl
 have hx:l9[0]?=some l9[0]:=List.getElem?_eq_getElem (by omega)
 have hk:l9[0].k=1:=by
  have h1:(ac l9)[0]?=some (1,gRow):=by rw[HA9.out];rfl
  rw[ac,List.getElem?_map,hx]at h1;injection h1 with h1;injection h1
 obtain⟨g,off,hE,-,hcc⟩:=chn_at HC10.out.sl rfl hx;subst hE;have d1:=(hcc _ hb11).1;rw[hk,Nat.zero_mul,Nat.add_zero]at d1;rw[hl9];clear hcc hx hk hb11 hV11 ha11 HVW B10 HC10
 go_wp2_with fail
 refine(num_any 7 _).mono ?_;rintro e w12 ⟨rfl,hb12⟩
 go_wp2_with fail
 refine(num_any 2 _).mono ?_;rintro e w13 ⟨rfl,hb13⟩
 go_wp2_with fail
 refine(num_any 6 _).mono ?_;rintro e w14 ⟨rfl,hb14⟩;have B14:=below_trans (below_trans (below_trans B11 hb12) hb13) hb14;have HV14:=Lib.hid (((HV11.out.below hb12).below hb13).below hb14);have HS14:=Lib.hid (three_vals w14 7 2 6);have HB16:=Lib.hid (below_trans (below_alloc w14 (.cells #[.int .i64 2,.int .i64 7,.string ⟨#[]⟩,.int .i64 2,.int .i64 2,.string ⟨#[]⟩,.int .i64 2,.int .i64 6,.string ⟨#[]⟩] 68)) (below_alloc _ (.cells #[.slice (some ⟨w14.heap.size,0,none⟩) 3 3,.int .i64 1] 45)))
 have HVN:Hid (View ((w14.alloc (.cells #[.int .i64 2,.int .i64 7,.string ⟨#[]⟩,.int .i64 2,.int .i64 2,.string ⟨#[]⟩,.int .i64 2,.int .i64 6,.string ⟨#[]⟩] 68)).alloc (.cells #[.slice (some ⟨w14.heap.size,0,none⟩) 3 3,.int .i64 1] 45)) (.slice (some ⟨w14.heap.size+1,0,none⟩) 1 1) [⟨.slice (some ⟨w14.heap.size,0,none⟩) 3 3,gRow,1⟩]):=Lib.hid (by
  have h1:=one_cnt (w14.alloc (.cells #[.int .i64 2,.int .i64 7,.string ⟨#[]⟩,.int .i64 2,.int .i64 2,.string ⟨#[]⟩,.int .i64 2,.int .i64 6,.string ⟨#[]⟩] 68)) ⟨.slice (some ⟨w14.heap.size,0,none⟩) 3 3,gRow,1⟩;rw[World.size_alloc]at h1
  exact⟨h1,fun c hc=>by
   rw[List.mem_singleton.1 hc];exact HS14.out.below (below_alloc _ _)⟩)
 have HSV:=Lib.hid (sameViews_any _ _ l11 _ _ (HV14.out.below HB16.out) HVN.out HA11.out);have B16:=below_trans B14 HB16.out;clear hb12 hb13 hb14 B11 HV11 HV14 HS14 HVN
 go_wp2_with fail
 refine Calls.mono (by with_reducible exact HSV.out) ?_;rintro e w17 ⟨rfl,hb17⟩;have B17:=below_trans B16 hb17;clear hb17 HB16;go_wp2;go_ret;exact⟨rfl,B17⟩
end Go.Proofs.YtjhbeecmdgglgaaGreatDoor
