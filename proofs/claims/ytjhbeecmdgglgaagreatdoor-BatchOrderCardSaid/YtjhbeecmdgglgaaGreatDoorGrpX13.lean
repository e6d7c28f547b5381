/-Plans: Gone, and the reference's GoneAt. Plans: planBegun. A text in a key: what value.text reads. A key read back: the plain law. Eight bytes put tog -/
import Derived.Test.YtjhbeecmdgglgaaGreatDoorGrpX8
import Derived.Test.YtjhbeecmdgglgaaGreatDoorGrpX12
import Derived.Test.YtjhbeecmdgglgaaGreatDoorGrpX4
import Derived.Test.YtjhbeecmdgglgaaGreatDoorGrpX9
set_option linter.unusedSimpArgs false
set_option linter.unusedVariables false
namespace Go.Proofs.YtjhbeecmdgglgaaGreatDoor
open Go.RowKit Go.Maps
end Go.Proofs.YtjhbeecmdgglgaaGreatDoor
namespace Go.Proofs.YtjhbeecmdgglgaaGreatDoor
open Go.RowKit Go.Maps
theorem two_vals (W:World)(a b:Int):Sl (W.alloc (.cells #[.int .i64 2,.int .i64 a,.string ⟨#[]⟩,.int .i64 2,.int .i64 b,.string ⟨#[]⟩] 68)) (.slice (some ⟨W.heap.size,0,none⟩) 2 2) 2 (rowCells [numV a,numV b]):=
 Sl.block (Blk.new W 68 #[.int .i64 2,.int .i64 a,.string ⟨#[]⟩,.int .i64 2,.int .i64 b,.string ⟨#[]⟩]) 2 2 (Nat.le_refl _) (by decide)
set_option maxHeartbeats 400000 in
set_option maxRecDepth 10000 in
theorem lawRow_any (a b:Int)(w:World):Calls Tryz.prog 42 #[.int .i64 a,.int .i64 b] w fun e w'=> ∃v,e= .returned v∧Sl w' v 2 (rowCells [numV a,numV b])∧Below w.heap.size w w':=by
 go_enter Tryz.func42,Tryz.ntmps42
 go_wp2_with fail
 refine(num_any _ _).mono ?_;rintro e w1 ⟨rfl,hb1⟩
 go_wp2_with fail
 refine(num_any _ _).mono ?_;rintro e w2 ⟨rfl,hb2⟩;have hB:=below_trans hb1 hb2;have HS:=Lib.hid (two_vals w2 a b);go_wp2;go_ret;exact⟨_,rfl,HS.out,hB.alloc hB.size _⟩
def simpleP (vl vr vk vq:Value):Pl:=⟨1,4,-5,5,0,2,vl,vr,vk,vq,false,.slice none 0 0,.slice none 0 0,[2,2],[2,2],[0],[0],[],[]⟩
def countedP (vl vr vk vq vg va:Value):Pl:=⟨1,4,-5,5,0,2,vl,vr,vk,vq,true,vg,va,[2,2],[2,2],[0],[0],[0],[(1,0),(2,1)]⟩
def emptyP:Pl:=⟨0,0,0,0,0,0,.slice none 0 0,.slice none 0 0,.slice none 0 0,.slice none 0 0,false,.slice none 0 0,.slice none 0 0,[],[],[],[],[],[]⟩
theorem empty_ok (w:World):emptyP.ok w:=⟨Sl.nil_ w,Sl.nil_ w,Sl.nil_ w,Sl.nil_ w,Sl.nil_ w,Sl.nil_ w⟩
theorem empty_fit:emptyP.fit:=⟨nofun,nofun,nofun,nofun,nofun,nofun⟩
theorem simple_fit (vl vr vk vq:Value):(simpleP vl vr vk vq).fit:=⟨by simp[simpleP,I64],by simp[simpleP,I64],by simp[simpleP,I64],by simp[simpleP,I64],by simp[simpleP,I64],by simp[simpleP]⟩
theorem counted_fit (vl vr vk vq vg va:Value):(countedP vl vr vk vq vg va).fit:=⟨by simp[countedP,I64],by simp[countedP,I64],by simp[countedP,I64],by simp[countedP,I64],by simp[countedP,I64],by simp[countedP]⟩
theorem simple_check (vl vr vk vq:Value):checkP (simpleP vl vr vk vq)=0:=by rfl
theorem counted_check (vl vr vk vq vg va:Value):checkP (countedP vl vr vk vq vg va)=0:=by rfl
theorem empty_check:checkP emptyP=4:=by rfl
theorem counted_out (vl vr vk vq vg va:Value):outL (countedP vl vr vk vq vg va)=[2,2,2]:=by
 unfold outL;rw[if_pos (counted_check _ _ _ _ _ _)];rfl
theorem simple_row (vl vr vk vq:Value):rowR (simpleP vl vr vk vq) 1 [numV 7,numV 8]=0:=by
 unfold rowR;rw[if_pos (simple_check _ _ _ _)];have h: ∀n,checkV (numV n)=0:=fun n=>by unfold checkV numV;simp[ByteArray.toList_eq]
 unfold rowE;simp only[List.map_cons,List.map_nil,h];rfl
theorem nine:((str (keyRow [numV 7])).size:Int)=9:=by
 rw[str_size];rfl
theorem lit_sl (W:World)(l:List Int)(hl:l.length≤1000)(cs:Array Value)(h:cs.toList=intCells l):Sl (W.alloc (.cells cs 3)) (.slice (some ⟨W.heap.size,0,none⟩) l.length l.length) l.length (intCells l):=by
 rw[←h];exact Sl.block (Blk.new W 3 cs) _ _ (Nat.le_refl _) (by unfold maxLen;omega)
set_option maxHeartbeats 4000000 in
set_option maxRecDepth 10000 in
theorem simple_any (w:World):Calls Tryz.prog 41 #[] w fun e w'=> ∃vl vr vk vq,e= .returned (.agg #[.int .i64 1,.int .i64 4,.int .i64 (-5),.int .i64 5,.int .i64 0,.int .i64 2,vl,vr,vk,vq,.bool false,.slice none 0 0,.slice none 0 0])∧(simpleP vl vr vk vq).ok w'∧(∀k,vl.ownBlock=some k→w.heap.size≤k)∧(∀k,vr.ownBlock=some k→w.heap.size≤k)∧(∀k,vk.ownBlock=some k→w.heap.size≤k)∧(∀k,vq.ownBlock=some k→w.heap.size≤k)∧Below w.heap.size w w':=by
 go_enter Tryz.func41,Tryz.ntmps41
 go_wp2;have S1:=lit_sl (w.alloc (.cells #[.int .i64 1,.int .i64 4,.int .i64 (-5),.int .i64 5,.int .i64 0,.int .i64 2,.slice (some ⟨w.heap.size+1,0,none⟩) 2 2,.slice (some ⟨w.heap.size+1,0,none⟩) 2 2,.slice (some ⟨w.heap.size+1+1,0,none⟩) 1 1,.slice (some ⟨w.heap.size+1+1+1,0,none⟩) 1 1,.bool false,.slice none 0 0,.slice none 0 0] 25)) [2,2] (by decide) #[.int .i64 2,.int .i64 2] rfl;have S2:=lit_sl ((w.alloc (.cells #[.int .i64 1,.int .i64 4,.int .i64 (-5),.int .i64 5,.int .i64 0,.int .i64 2,.slice (some ⟨w.heap.size+1,0,none⟩) 2 2,.slice (some ⟨w.heap.size+1,0,none⟩) 2 2,.slice (some ⟨w.heap.size+1+1,0,none⟩) 1 1,.slice (some ⟨w.heap.size+1+1+1,0,none⟩) 1 1,.bool false,.slice none 0 0,.slice none 0 0] 25)).alloc (.cells #[.int .i64 2,.int .i64 2] 3)) [0] (by decide) #[.int .i64 0] rfl;have S3:=lit_sl (((w.alloc (.cells #[.int .i64 1,.int .i64 4,.int .i64 (-5),.int .i64 5,.int .i64 0,.int .i64 2,.slice (some ⟨w.heap.size+1,0,none⟩) 2 2,.slice (some ⟨w.heap.size+1,0,none⟩) 2 2,.slice (some ⟨w.heap.size+1+1,0,none⟩) 1 1,.slice (some ⟨w.heap.size+1+1+1,0,none⟩) 1 1,.bool false,.slice none 0 0,.slice none 0 0] 25)).alloc (.cells #[.int .i64 2,.int .i64 2] 3)).alloc (.cells #[.int .i64 0] 3)) [0] (by decide) #[.int .i64 0] rfl;have hB:=below_trans (below_trans (below_trans (below_alloc w (.cells #[.int .i64 1,.int .i64 4,.int .i64 (-5),.int .i64 5,.int .i64 0,.int .i64 2,.slice (some ⟨w.heap.size+1,0,none⟩) 2 2,.slice (some ⟨w.heap.size+1,0,none⟩) 2 2,.slice (some ⟨w.heap.size+1+1,0,none⟩) 1 1,.slice (some ⟨w.heap.size+1+1+1,0,none⟩) 1 1,.bool false,.slice none 0 0,.slice none 0 0] 25)) (below_alloc _ (.cells #[.int .i64 2,.int .i64 2] 3))) (below_alloc _ (.cells #[.int .i64 0] 3))) (below_alloc _ (.cells #[.int .i64 0] 3));have S1':=(S1.below (below_alloc _ (.cells #[.int .i64 0] 3))).below (below_alloc _ (.cells #[.int .i64 0] 3));have S2':=S2.below (below_alloc _ (.cells #[.int .i64 0] 3));simp only[World.size_alloc]at S1' S2' S3;refine bodyPost_ret (v:= .agg #[.int .i64 1,.int .i64 4,.int .i64 (-5),.int .i64 5,.int .i64 0,.int .i64 2,.slice (some ⟨w.heap.size+1,0,none⟩) 2 2,.slice (some ⟨w.heap.size+1,0,none⟩) 2 2,.slice (some ⟨w.heap.size+1+1,0,none⟩) 1 1,.slice (some ⟨w.heap.size+1+1+1,0,none⟩) 1 1,.bool false,.slice none 0 0,.slice none 0 0]) (by simp[results,Tryz.results41,go_sem]) rfl ?_;refine⟨_,_,_,_,rfl,⟨S1',S1',S2',S3,Sl.nil_ _,Sl.nil_ _⟩,fresh_some (by omega),fresh_some (by omega),fresh_some (by omega),fresh_some (by omega),hB⟩
theorem two_aggs (W:World):Sl (W.alloc (.cells #[.int .i64 1,.int .i64 0,.int .i64 2,.int .i64 1] 94)) (.slice (some ⟨W.heap.size,0,none⟩) 2 2) 2 (aggCells [(1,0),(2,1)]):=
 Sl.block (Blk.new W 94 #[.int .i64 1,.int .i64 0,.int .i64 2,.int .i64 1]) 2 2 (Nat.le_refl _) (by decide)
theorem Sl.sets {w:World}{v:Value}{n g:Nat}{cs:List Value}(h:Sl w v n cs)(hp: ∀k,v.ownBlock=some k→k≠g)(l:List (Nat×Value)):Sl (l.foldl (fun w q=>w.setCell ⟨g,q.1,none⟩ q.2) w) v n cs:=by
 induction l generalizing w with
 |nil=>exact h
 |cons q l ih=>exact ih (h.setCell hp q.2)
theorem below_sets {B g:Nat}{a w:World}(h:Below B a w)(hg:B≤g)(l:List (Nat×Value)):Below B a (l.foldl (fun w q=>w.setCell ⟨g,q.1,none⟩ q.2) w):=by
 induction l generalizing w with
 |nil=>exact h
 |cons q l ih=>exact ih (h.setCell hg q.2)
set_option maxHeartbeats 4000000 in
set_option maxRecDepth 10000 in
theorem counted_any (w:World):Calls Tryz.prog 43 #[] w fun e w'=> ∃vl vr vk vq vg va,e= .returned (.agg #[.int .i64 1,.int .i64 4,.int .i64 (-5),.int .i64 5,.int .i64 0,.int .i64 2,vl,vr,vk,vq,.bool true,vg,va])∧(countedP vl vr vk vq vg va).ok w'∧Below w.heap.size w w':=by
 have hB:=below_alloc w (.cells #[.int .i64 0,.int .i64 0,.int .i64 0,.int .i64 0,.int .i64 0,.int .i64 0,.slice none 0 0,.slice none 0 0,.slice none 0 0,.slice none 0 0,.bool false,.slice none 0 0,.slice none 0 0] 25);have K0:=Blk.new w 25 #[.int .i64 0,.int .i64 0,.int .i64 0,.int .i64 0,.int .i64 0,.int .i64 0,.slice none 0 0,.slice none 0 0,.slice none 0 0,.slice none 0 0,.bool false,.slice none 0 0,.slice none 0 0];go_enter Tryz.func43,Tryz.ntmps43
 go_wp2_with fail
 refine(simple_any _).mono ?_;rintro e w1 ⟨vl,vr,vk,vq,rfl,hok,hl,hr,hk',hq,hb1⟩;have K1:=K0.below hb1;have HOK:=Lib.hid hok;obtain⟨⟨A0,c0,e0,-⟩,⟨A1,c1,e1,-⟩,⟨A2,c2,e2,-⟩,⟨A3,c3,e3,-⟩,-,-⟩:=hok;simp only[simpleP]at e0 e1 e2 e3;subst e0 e1 e2 e3;have K2:=((K1.alloc (.cells #[.int .i64 1,.int .i64 4,.int .i64 (-5),.int .i64 5,.int .i64 0,.int .i64 2,.slice A0 2 c0,.slice A1 2 c1,.slice A2 1 c2,.slice A3 1 c3,.bool true,.slice (some ⟨w1.heap.size+1,0,none⟩) 1 1,.slice (some ⟨w1.heap.size+1+1,0,none⟩) 2 2] 25)).alloc (.cells #[.int .i64 0] 3)).alloc (.cells #[.int .i64 1,.int .i64 0,.int .i64 2,.int .i64 1] 94);obtain⟨y0,y1,y2,y3,y4,y5,y6,y7,y8,y9,y10,y11,y12⟩:=pl_cells K2;have f0:=K2.free 0;have f1:=K2.free 1;have f2:=K2.free 2;have f3:=K2.free 3;have f4:=K2.free 4;have f5:=K2.free 5;have f6:=K2.free 6;have f7:=K2.free 7;have f8:=K2.free 8;have f9:=K2.free 9;have f10:=K2.free 10;have f11:=K2.free 11;have f12:=K2.free 12;go_wp2;have K3:Blk _ w.heap.size 25 #[.int .i64 1,.int .i64 4,.int .i64 (-5),.int .i64 5,.int .i64 0,.int .i64 2,.slice A0 2 c0,.slice A1 2 c1,.slice A2 1 c2,.slice A3 1 c3,.bool true,.slice (some ⟨w1.heap.size+1,0,none⟩) 1 1,.slice (some ⟨w1.heap.size+1+1,0,none⟩) 2 2]:=(((((((((((((K2.set_ 0 (.int .i64 1)).set_ 1 (.int .i64 4)).set_ 2 (.int .i64 (-5))).set_ 3 (.int .i64 5)).set_ 4 (.int .i64 0)).set_ 5 (.int .i64 2)).set_ 6 (.slice A0 2 c0)).set_ 7 (.slice A1 2 c1)).set_ 8 (.slice A2 1 c2)).set_ 9 (.slice A3 1 c3)).set_ 10 (.bool true)).set_ 11 (.slice (some ⟨w1.heap.size+1,0,none⟩) 1 1)).set_ 12 (.slice (some ⟨w1.heap.size+1+1,0,none⟩) 2 2));obtain⟨z0,z1,z2,z3,z4,z5,z6,z7,z8,z9,z10,z11,z12⟩:=pl_cells K3;refine bodyPost_ret (v:= .agg #[.int .i64 1,.int .i64 4,.int .i64 (-5),.int .i64 5,.int .i64 0,.int .i64 2,.slice A0 2 c0,.slice A1 2 c1,.slice A2 1 c2,.slice A3 1 c3,.bool true,.slice (some ⟨w1.heap.size+1,0,none⟩) 1 1,.slice (some ⟨w1.heap.size+1+1,0,none⟩) 2 2]) (by simp[results,Tryz.results43,go_sem,z0,z1,z2,z3,z4,z5,z6,z7,z8,z9,z10,z11,z12]) rfl ?_;have hw1:w.heap.size+1≤w1.heap.size:=by have:=hb1.size;simpa using this
 have b1:=below_alloc w1 (.cells #[.int .i64 1,.int .i64 4,.int .i64 (-5),.int .i64 5,.int .i64 0,.int .i64 2,.slice A0 2 c0,.slice A1 2 c1,.slice A2 1 c2,.slice A3 1 c3,.bool true,.slice (some ⟨w1.heap.size+1,0,none⟩) 1 1,.slice (some ⟨w1.heap.size+1+1,0,none⟩) 2 2] 25);have b2:=below_trans b1 (below_alloc _ (.cells #[.int .i64 0] 3));have b3:=below_trans b2 (below_alloc _ (.cells #[.int .i64 1,.int .i64 0,.int .i64 2,.int .i64 1] 94));have SG:=(lit_sl (w1.alloc (.cells #[.int .i64 1,.int .i64 4,.int .i64 (-5),.int .i64 5,.int .i64 0,.int .i64 2,.slice A0 2 c0,.slice A1 2 c1,.slice A2 1 c2,.slice A3 1 c3,.bool true,.slice (some ⟨w1.heap.size+1,0,none⟩) 1 1,.slice (some ⟨w1.heap.size+1+1,0,none⟩) 2 2] 25)) [0] (by decide) #[.int .i64 0] rfl).below (below_alloc _ (.cells #[.int .i64 1,.int .i64 0,.int .i64 2,.int .i64 1] 94));have SA:=two_aggs ((w1.alloc (.cells #[.int .i64 1,.int .i64 4,.int .i64 (-5),.int .i64 5,.int .i64 0,.int .i64 2,.slice A0 2 c0,.slice A1 2 c1,.slice A2 1 c2,.slice A3 1 c3,.bool true,.slice (some ⟨w1.heap.size+1,0,none⟩) 1 1,.slice (some ⟨w1.heap.size+1+1,0,none⟩) 2 2] 25)).alloc (.cells #[.int .i64 0] 3));simp only[World.size_alloc]at SG SA;have hok:=HOK.out;refine⟨_,_,_,_,_,_,rfl,⟨?_,?_,?_,?_,?_,?_⟩,?_⟩
 ·exact(hok.l.below b3).sets (fun k hk=>by have:=hl k hk;simp at this;omega) [(0,.int .i64 1),(1,.int .i64 4),(2,.int .i64 (-5)),(3,.int .i64 5),(4,.int .i64 0),(5,.int .i64 2),(6,.slice A0 2 c0),(7,.slice A1 2 c1),(8,.slice A2 1 c2),(9,.slice A3 1 c3),(10,.bool true),(11,.slice (some ⟨w1.heap.size+1,0,none⟩) 1 1),(12,.slice (some ⟨w1.heap.size+1+1,0,none⟩) 2 2)]
 ·exact(hok.r.below b3).sets (fun k hk=>by have:=hr k hk;simp at this;omega) [(0,.int .i64 1),(1,.int .i64 4),(2,.int .i64 (-5)),(3,.int .i64 5),(4,.int .i64 0),(5,.int .i64 2),(6,.slice A0 2 c0),(7,.slice A1 2 c1),(8,.slice A2 1 c2),(9,.slice A3 1 c3),(10,.bool true),(11,.slice (some ⟨w1.heap.size+1,0,none⟩) 1 1),(12,.slice (some ⟨w1.heap.size+1+1,0,none⟩) 2 2)]
 ·exact(hok.k.below b3).sets (fun k hk=>by have:=hk' k hk;simp at this;omega) [(0,.int .i64 1),(1,.int .i64 4),(2,.int .i64 (-5)),(3,.int .i64 5),(4,.int .i64 0),(5,.int .i64 2),(6,.slice A0 2 c0),(7,.slice A1 2 c1),(8,.slice A2 1 c2),(9,.slice A3 1 c3),(10,.bool true),(11,.slice (some ⟨w1.heap.size+1,0,none⟩) 1 1),(12,.slice (some ⟨w1.heap.size+1+1,0,none⟩) 2 2)]
 ·exact(hok.q.below b3).sets (fun k hk=>by have:=hq k hk;simp at this;omega) [(0,.int .i64 1),(1,.int .i64 4),(2,.int .i64 (-5)),(3,.int .i64 5),(4,.int .i64 0),(5,.int .i64 2),(6,.slice A0 2 c0),(7,.slice A1 2 c1),(8,.slice A2 1 c2),(9,.slice A3 1 c3),(10,.bool true),(11,.slice (some ⟨w1.heap.size+1,0,none⟩) 1 1),(12,.slice (some ⟨w1.heap.size+1+1,0,none⟩) 2 2)]
 ·exact SG.sets (fun k hk=>by simp[Value.ownBlock]at hk;omega) [(0,.int .i64 1),(1,.int .i64 4),(2,.int .i64 (-5)),(3,.int .i64 5),(4,.int .i64 0),(5,.int .i64 2),(6,.slice A0 2 c0),(7,.slice A1 2 c1),(8,.slice A2 1 c2),(9,.slice A3 1 c3),(10,.bool true),(11,.slice (some ⟨w1.heap.size+1,0,none⟩) 1 1),(12,.slice (some ⟨w1.heap.size+1+1,0,none⟩) 2 2)]
 ·exact SA.sets (fun k hk=>by simp[Value.ownBlock]at hk;omega) [(0,.int .i64 1),(1,.int .i64 4),(2,.int .i64 (-5)),(3,.int .i64 5),(4,.int .i64 0),(5,.int .i64 2),(6,.slice A0 2 c0),(7,.slice A1 2 c1),(8,.slice A2 1 c2),(9,.slice A3 1 c3),(10,.bool true),(11,.slice (some ⟨w1.heap.size+1,0,none⟩) 1 1),(12,.slice (some ⟨w1.heap.size+1+1,0,none⟩) 2 2)]
 ·exact below_sets (below_trans (below_trans hB hb1) b3) (Nat.le_refl _) [(0,.int .i64 1),(1,.int .i64 4),(2,.int .i64 (-5)),(3,.int .i64 5),(4,.int .i64 0),(5,.int .i64 2),(6,.slice A0 2 c0),(7,.slice A1 2 c1),(8,.slice A2 1 c2),(9,.slice A3 1 c3),(10,.bool true),(11,.slice (some ⟨w1.heap.size+1,0,none⟩) 1 1),(12,.slice (some ⟨w1.heap.size+1+1,0,none⟩) 2 2)]
end Go.Proofs.YtjhbeecmdgglgaaGreatDoor
namespace Go.Proofs.YtjhbeecmdgglgaaGreatDoor
open Go.RowKit
def txtF:List UInt8→Nat→Option (List UInt8×Nat)
 |[],_=>none
 |_::_,0=>none
 |c::r,m+1=>
  if c≠0 then(txtF r m).map fun p=>(c::p.1,p.2+1)
  else match r with
   |[]=>none
   |d::r'=>if d=1 then some ([],2)else if d=255 then(txtF r' m).map fun p=>(0::p.1,p.2+2)else none
theorem txt_plain {c:UInt8}(r:List UInt8)(m:Nat)(hc:c≠0):txtF (c::r) (m+1)=(txtF r m).map fun p=>(c::p.1,p.2+1):=by
 rw[txtF.eq_def];simp[hc]
theorem txt_end (m:Nat):txtF [0] (m+1)=none:=by rw[txtF.eq_def];rfl
theorem txt_stop (r:List UInt8)(m:Nat):txtF (0::1::r) (m+1)=some ([],2):=by rw[txtF.eq_def];rfl
theorem txt_zero (r:List UInt8)(m:Nat):txtF (0::255::r) (m+1)=(txtF r m).map fun p=>(0::p.1,p.2+2):=by rw[txtF.eq_def];rfl
theorem txt_bad {d:UInt8}(r:List UInt8)(m:Nat)(h1:d≠1)(h2:d≠255):txtF (0::d::r) (m+1)=none:=by rw[txtF.eq_def];simp[h1,h2]
theorem txt_full (l:List UInt8):txtF l 0=none:=by cases l<;>rfl
theorem txt_nil (m:Nat):txtF [] m=none:=by cases m<;>rfl
def TxtRel (l:List UInt8) (i:Nat) (b:List UInt8):Prop:=txtF l 65=(txtF (l.drop i) (65-b.length)).map fun p=>(b++p.1,i+p.2)
theorem rel_start (l:List UInt8):TxtRel l 0 []:=by
 unfold TxtRel;simp
theorem rel_plain {l:List UInt8}{i:Nat}{b:List UInt8}{c:UInt8}(h:TxtRel l i b)(hd:l[i]?=some c)(hc:c≠0)(hb:b.length≤64):TxtRel l (i+1) (b++[c]):=by
 unfold TxtRel at*;obtain⟨hlt,rfl⟩:=List.getElem?_eq_some_iff.1 hd;rw[h,List.drop_eq_getElem_cons hlt,show 65-b.length=(64-b.length)+1 from by omega,txt_plain _ _ hc,Option.map_map];rw[show 65-(b++[l[i]]).length=64-b.length from by simp]
 congr 1
 funext p
 simp[Nat.add_assoc,Nat.add_comm 1]
theorem rel_zero {l:List UInt8}{i:Nat}{b:List UInt8}(h:TxtRel l i b)(hd:l[i]?=some 0)(hd2:l[i+1]?=some 255)(hb:b.length≤64):TxtRel l (i+2) (b++[0]):=by
 unfold TxtRel at*;obtain⟨hlt,e1⟩:=List.getElem?_eq_some_iff.1 hd;obtain⟨hlt2,e2⟩:=List.getElem?_eq_some_iff.1 hd2;rw[h,List.drop_eq_getElem_cons hlt,List.drop_eq_getElem_cons hlt2,e1,e2,show 65-b.length=(64-b.length)+1 from by omega,txt_zero,Option.map_map];rw[show 65-(b++[(0:UInt8)]).length=64-b.length from by simp]
 congr 1
 funext p
 simp[Nat.add_assoc,Nat.add_comm 2]
theorem rel_end1 {l:List UInt8}{i:Nat}{b:List UInt8}(h:TxtRel l i b)(hi:l.length≤i):txtF l 65=none:=by
 rw[h,List.drop_eq_nil_of_le hi,txt_nil];rfl
theorem rel_end2 {l:List UInt8}{i:Nat}{b:List UInt8}(h:TxtRel l i b)(hb:64<b.length):txtF l 65=none:=by
 rw[h,show 65-b.length=0 from by omega,txt_full];rfl
theorem rel_end3 {l:List UInt8}{i:Nat}{b:List UInt8}(h:TxtRel l i b)(hd:l[i]?=some 0)(hi:l.length=i+1)(hb:b.length≤64):txtF l 65=none:=by
 obtain⟨hlt,e1⟩:=List.getElem?_eq_some_iff.1 hd;rw[h,List.drop_eq_getElem_cons hlt,e1,List.drop_eq_nil_of_le (by omega),show 65-b.length=(64-b.length)+1 from by omega,txt_end];rfl
theorem rel_end4 {l:List UInt8}{i:Nat}{b:List UInt8}{d:UInt8}(h:TxtRel l i b)(hd:l[i]?=some 0)(hd2:l[i+1]?=some d)(h1:d≠1)(h2:d≠255)(hb:b.length≤64):txtF l 65=none:=by
 obtain⟨hlt,e1⟩:=List.getElem?_eq_some_iff.1 hd;obtain⟨hlt2,e2⟩:=List.getElem?_eq_some_iff.1 hd2;rw[h,List.drop_eq_getElem_cons hlt,List.drop_eq_getElem_cons hlt2,e1,e2,show 65-b.length=(64-b.length)+1 from by omega,txt_bad _ _ h1 h2];rfl
theorem rel_stop {l:List UInt8}{i:Nat}{b:List UInt8}(h:TxtRel l i b)(hd:l[i]?=some 0)(hd2:l[i+1]?=some 1)(hb:b.length≤64):txtF l 65=some (b,i+2):=by
 obtain⟨hlt,e1⟩:=List.getElem?_eq_some_iff.1 hd;obtain⟨hlt2,e2⟩:=List.getElem?_eq_some_iff.1 hd2;rw[h,List.drop_eq_getElem_cons hlt,List.drop_eq_getElem_cons hlt2,e1,e2,show 65-b.length=(64-b.length)+1 from by omega,txt_stop];simp
def textR (l:List UInt8):ByteArray×Int×Bool:=match txtF l 65 with
 |some p=>(str p.1,(p.2:Int),true)
 |none=>(⟨#[]⟩,0,false)
theorem textR_no {l:List UInt8}(h:txtF l 65=none):textR l=(⟨#[]⟩,0,false):=by unfold textR;rw[h]
theorem textR_yes {l b:List UInt8}{n:Nat}(h:txtF l 65=some (b,n)):textR l=(str b,(n:Int),true):=by unfold textR;rw[h]
set_option maxRecDepth 10000 in
theorem run_str_own {wr:World}{base n:Nat}{A:Option Addr}{c:Nat}{l:List UInt8}(h:wr.ownsRow base 5 1 (.slice A n c) n (bytesV l))(hn:n=l.length):
 (convert 142 9 (.slice A n c)).run Tryz.prog wr= .ok (.string (str l)) wr:=by
 obtain⟨A',c',e,-,-,-,hcell⟩:=Sl.of_own h;injection e with e1 e2 e3;subst e1 e3;cases l with
 |nil=>
  have hn0:n=0:=hn;subst hn0;cases A with
  |none=>
   rw[run_convert_bytes_nil wr 142 5 Tryz.underlying142 Tryz.underlying5 0 c 9 Tryz.underlying9];rfl
  |some a=>exact run_convert_bytes_back wr 142 9 5 a c [] Tryz.underlying142 Tryz.underlying5 Tryz.underlying9 (by simp)
 |cons q r=>
  obtain⟨gb,go,rfl,hcc⟩:=hcell (by simp[bytesV]);subst hn;exact run_str wr gb go c (q::r) hcc
theorem byte_ne {c:UInt8}{n:Nat}(hn:n<256)(h:c≠UInt8.ofNat n):((c.toNat:Int)==(n:Int))=false:=by
 simp only[beq_eq_false_iff_ne];intro e;apply h;apply UInt8.toNat_inj.1;rw[UInt8.toNat_ofNat',Nat.mod_eq_of_lt hn];omega
set_option maxHeartbeats 2000000 in
set_option maxRecDepth 10000 in
theorem text_any (s:ByteArray)(w:World)(hs:s.size≤4611686018427387904):
 Calls Tryz.prog 104 #[.string s] w fun e w'=>e= .returned (.tuple #[.string (textR s.toList).1,.int .i64 (textR s.toList).2.1,.bool (textR s.toList).2.2])∧Below w.heap.size w w':=by
 go_enter Tryz.func104,Tryz.ntmps104
 go_wp2
 go_loopw[5,6] (fun b i wr=> ∃(k:Nat) (v:Value) (x:List UInt8),v=b∧k≤s.size∧i= .int .i64 k∧x.length≤65∧Hid (TxtRel s.toList k x)∧wr.ownsRow w.heap.size 5 1 v x.length (bytesV x)∧Below w.heap.size w wr)
  (fun _ i _=>s.size-(intOf i).toNat)
 case atStart=>exact⟨0,_,[],rfl,by omega,rfl,by simp,rel_start _,World.ownsRow_nil _ _ _ _,Below.refl _ _⟩
 case round=>
  obtain⟨k,v,x,rfl,hk,rfl,hx,HR,hown,hbw⟩:=hrel;obtain⟨A,c,rfl,hxc,-⟩:=Sl.of_own hown;by_cases hlt:k<s.size
  ·by_cases hx64:x.length≤64
   ·have hat:=toList_at s k hlt
    have HA:=Lib.hid hat;clear hat;by_cases hc0:s[k]=0
    ·have HA0:=Lib.hid (show s.toList[k]?=some 0 from by rw[HA.out,hc0])
     by_cases hk1:k+1<s.size
     ·have HD:=Lib.hid (toList_at s (k+1) hk1)
      by_cases hd1:s[k+1]=1
      ·have HD1:=Lib.hid (show s.toList[k+1]?=some 1 from by rw[HD.out,hd1])
       have e1:=Lib.hid (textR_yes (rel_stop HR.out HA0.out HD1.out hx64));have hcv:=run_str_own hown rfl;go_wp2
       go_ret3
       exact⟨by rw[e1.out];rfl,hbw⟩
      ·by_cases hd2:s[k+1]=255
       ·have HD1:=Lib.hid (show s.toList[k+1]?=some 255 from by rw[HD.out,hd2])
        clear hd1
        go_wp2_with (at_builtin;refine wpList_app rfl (.tmp 54) (.tmp 55) 142 rfl w.heap.size 5 1 1 Tryz.underlying142 byteI _ x.length _ rfl (hown.alloc _) _ 1 [.int .u8 0] rfl (Sl.block (Blk.new wr 5 #[.int .u8 0]) 1 1 (Nat.le_refl _) (by decide)) rfl ?_ ?_ ?_ ?_ ?_)
        ·intro u hu;simp at hu;subst hu;rfl
        ·unfold maxLen;omega
        ·omega
        ·have:=hbw.size;simp;omega
        ·intro v2 w3 hown3 hg3 hat3
         have hbw3:=below_app hbw hg3 (own_ge hown);have R:=rel_zero HR.out HA0.out HD1.out hx64;have HRR:=Lib.hid R;clear R;go_wp2;go_roundw
         case rel=>exact⟨k+2,_,x++[0],rfl,by omega,by go_num,by simp;omega,HRR.out,by simpa[bytesV,byteV]using hown3,hbw3⟩
         case measure=>simp[intOf];omega
       ·have hb1:=(show((s[k+1].toNat:Int)==1)=false from byte_ne (n:=1) (by omega) hd1)
        have hb2:=(show((s[k+1].toNat:Int)==255)=false from byte_ne (n:=255) (by omega) hd2);have e1:=Lib.hid (textR_no (rel_end4 HR.out HA0.out HD.out hd1 hd2 hx64));have hb3:((s[k+1].toNat:Int) != 1)=true:=by simp only[bne,hb1];rfl
        have hb4:((s[k+1].toNat:Int) != 255)=true:=by simp only[bne,hb2];rfl
        have hb5:(((k:Int)+1)==(s.size:Int))=false:=by simp;omega
        clear hd1 hd2;go_wp2
        go_ret3
        exact⟨by rw[e1.out];rfl,hbw⟩
     ·have hke:k+1=s.size:=by omega
      have e1:=Lib.hid (textR_no (rel_end3 HR.out HA0.out (by rw[toList_len];omega) hx64));have hb0:(((k:Int)+1)==(s.size:Int))=true:=by simp;omega
      clear hke;go_wp2
      go_ret3
      exact⟨by rw[e1.out];rfl,hbw⟩
    ·have hb:=byte_ne (n:=0) (by omega) hc0
     have HC:=Lib.hid hc0;clear hc0
     go_wp2_with (at_builtin;refine wpList_app rfl (.tmp 22) (.tmp 26) 142 rfl w.heap.size 5 1 1 Tryz.underlying142 byteI _ x.length _ rfl (hown.alloc _) _ 1 [.int .u8 (s[k].toNat:Int)] rfl (Sl.block (Blk.new wr 5 #[.int .u8 (s[k].toNat:Int)]) 1 1 (Nat.le_refl _) (by decide)) rfl ?_ ?_ ?_ ?_ ?_)
     ·intro u hu;simp at hu;subst hu;rfl
     ·unfold maxLen;omega
     ·omega
     ·have:=hbw.size;simp;omega
     ·intro v2 w3 hown3 hg3 hat3
      have hbw3:=below_app hbw hg3 (own_ge hown);have R:=rel_plain HR.out HA.out HC.out hx64;have HRR:=Lib.hid R;clear R hb;go_wp2;go_roundw
      case rel=>exact⟨k+1,_,x++[s[k]],rfl,by omega,by go_num,by simp;omega,HRR.out,by simpa[bytesV,byteV]using hown3,hbw3⟩
      case measure=>simp[intOf];omega
   ·have e1:=Lib.hid (textR_no (rel_end2 HR.out (by omega)))
    go_wp2
    go_ret3
    exact⟨by rw[e1.out];rfl,hbw⟩
  ·have e1:=Lib.hid (textR_no (rel_end1 HR.out (by rw[toList_len];omega)))
   go_wp2
   go_ret3
   exact⟨by rw[e1.out];rfl,hbw⟩
end Go.Proofs.YtjhbeecmdgglgaaGreatDoor
namespace Go.Proofs.YtjhbeecmdgglgaaGreatDoor
open Go.RowKit
theorem txt_make (b:List UInt8): ∀(m:Nat) (r:List UInt8),b.length<m→txtF (esc b++(0::1::r)) m=some (b,(esc b).length+2):=by
 induction b with
 |nil=>
  intro m r h;obtain⟨m,rfl⟩: ∃q,m=q+1:=⟨m-1,by simp at h;omega⟩;exact txt_stop r m
 |cons c b ih=>
  intro m r h;obtain⟨m,rfl⟩: ∃q,m=q+1:=⟨m-1,by simp at h;omega⟩;have hm:b.length<m:=by simp at h;omega
  rw[esc_cons];by_cases hc:c=0
  ·subst hc
   rw[if_pos rfl,List.append_assoc];show txtF (0::255::(esc b++(0::1::r))) (m+1)=_;rw[txt_zero,ih m r hm];simp
  ·rw[if_neg hc,List.append_assoc]
   show txtF (c::(esc b++(0::1::r))) (m+1)=_;rw[txt_plain _ _ hc,ih m r hm];simp
theorem txt_back: ∀(k:Nat) (l:List UInt8) (m:Nat) (b:List UInt8) (n:Nat),l.length≤k→txtF l m=some (b,n)→l=esc b++(0::1::l.drop n)∧n=(esc b).length+2∧b.length<m:=by
 intro k
 induction k with
 |zero=>
  intro l m b n hl h;obtain rfl:l=[]:=List.length_eq_zero_iff.1 (by omega);rw[txt_nil]at h;simp at h
 |succ k ih=>
  intro l m b n hl h;cases l with
  |nil=>rw[txt_nil]at h;simp at h
  |cons c r=>
   cases m with
   |zero=>rw[txt_full]at h;simp at h
   |succ m=>
    by_cases hc:c=0
    ·subst hc
     cases r with
     |nil=>rw[txt_end]at h;simp at h
     |cons d r=>
      by_cases h1:d=1
      ·subst h1
       rw[txt_stop]at h;simp only[Option.some.injEq,Prod.mk.injEq]at h;obtain⟨rfl,rfl⟩:=h;exact⟨rfl,rfl,by simp⟩
      ·by_cases h2:d=255
       ·subst h2
        rw[txt_zero]at h;rw[Option.map_eq_some_iff]at h;obtain⟨⟨b',n'⟩,hb,he⟩:=h;simp only[Prod.mk.injEq]at he;obtain⟨rfl,rfl⟩:=he;obtain⟨e1,e2,e3⟩:=ih r m b' n' (by simp at hl;omega) hb;refine⟨?_,?_,by simp;omega⟩
        ·rw[esc_cons,if_pos rfl]
         show 0::255::r=0::255::(esc b'++(0::1::r.drop n'));rw[←e1]
        ·rw[esc_cons,if_pos rfl];simp;omega
       ·rw[txt_bad _ _ h1 h2]at h;simp at h
    ·rw[txt_plain _ _ hc]at h
     rw[Option.map_eq_some_iff]at h;obtain⟨⟨b',n'⟩,hb,he⟩:=h;simp only[Prod.mk.injEq]at he;obtain⟨rfl,rfl⟩:=he;obtain⟨e1,e2,e3⟩:=ih r m b' n' (by simp at hl;omega) hb;refine⟨?_,?_,by simp;omega⟩
     ·rw[esc_cons,if_neg hc]
      show c::r=c::(esc b'++(0::1::r.drop n'));rw[←e1]
     ·rw[esc_cons,if_neg hc];simp;omega
def be8N (l:List UInt8):Nat:=l.foldl (fun m b=>m*256+b.toNat) 0
theorem be8N_snoc (l:List UInt8)(b:UInt8):be8N (l++[b])=be8N l*256+b.toNat:=by simp[be8N]
theorem be8_make (m:Nat)(h:m<18446744073709551616):be8N (be8 m)=m:=by
 have e:be8 m=[byteAt m 0,byteAt m 1,byteAt m 2,byteAt m 3,byteAt m 4,byteAt m 5,byteAt m 6,byteAt m 7]:=rfl;rw[e];simp only[be8N,List.foldl,byteAt,UInt8.toNat_ofNat'];simp only[Nat.reducePow,Nat.reduceMul,Nat.reduceSub];omega
theorem be8_back (l:List UInt8)(h:l.length=8):be8 (be8N l)=l∧be8N l<18446744073709551616:=by
 match l,h with
 |[b0,b1,b2,b3,b4,b5,b6,b7],_=>
  have h0:=b0.toNat_lt;have h1:=b1.toNat_lt;have h2:=b2.toNat_lt;have h3:=b3.toNat_lt;have h4:=b4.toNat_lt;have h5:=b5.toNat_lt;have h6:=b6.toNat_lt;have h7:=b7.toNat_lt;simp only[be8N,List.foldl]
  have hb: ∀(m k:Nat) (b:UInt8),m/ 2 ^(56-8*k)%256=b.toNat→byteAt m k=b:=fun m k b hh=>by
   apply UInt8.toNat_inj.1;rw[byteAt,UInt8.toNat_ofNat'];exact hh
  refine⟨?_,by omega⟩;show[byteAt _ 0,byteAt _ 1,byteAt _ 2,byteAt _ 3,byteAt _ 4,byteAt _ 5,byteAt _ 6,byteAt _ 7]=_;rw[hb _ 0 b0,hb _ 1 b1,hb _ 2 b2,hb _ 3 b3,hb _ 4 b4,hb _ 5 b5,hb _ 6 b6,hb _ 7 b7]
  all_goals
   simp only[Nat.reducePow,Nat.reduceMul,Nat.reduceSub];omega
def cellF:List UInt8→Option (Val×Nat)
 |[]=>none
 |c::r=>
  if c=0 then some (⟨0,0,⟨#[]⟩⟩,1)
  else if c=1 then match r with
   |[]=>none
   |b::_=>if b.toNat≤1 then some (⟨1,(b.toNat:Int),⟨#[]⟩⟩,2)else none
  else if c=2 then if 8≤r.length then some (⟨2,(be8N (r.take 8):Int)-9223372036854775808,⟨#[]⟩⟩,9)else none
  else if c=3 then(txtF r 65).map fun p=>(⟨3,0,str p.1⟩,1+p.2)
  else none
def decG:Nat→List UInt8→Option (List Val)
 |_,[]=>some []
 |0,_::_=>none
 |m+1,c::r=>match cellF (c::r)with
  |none=>none
  |some p=>(decG m ((c::r).drop p.2)).map (p.1:: ·)
theorem empty_bytes {s:ByteArray}(h:s.toList.isEmpty=true):s=⟨#[]⟩:=by
 rw[←str_of s,List.isEmpty_iff.1 h];rfl
theorem good_cells (v:Val)(h:checkV v=0):
 v=⟨0,0,⟨#[]⟩⟩∨v=⟨1,0,⟨#[]⟩⟩∨v=⟨1,1,⟨#[]⟩⟩∨v=⟨2,v.n,⟨#[]⟩⟩∨(v=⟨3,0,v.s⟩∧v.s.size≤64):=by
 rcases val_cases v with⟨h1,-,hc⟩|⟨h1,-,-,hc⟩|⟨h1,h2,h3,hc⟩|⟨h1,-,-,hc⟩|⟨h1,-,-,hc⟩|⟨h1,h2,h3,hc⟩|⟨h1,-,-,hc⟩|⟨h1,h2,h3,hc⟩|⟨h1,-,hc⟩|⟨h1,h3,hc⟩|⟨h1,-,hc⟩|⟨h1,-,-,hc⟩|⟨h1,h4,h2,hc⟩|⟨h1,hc⟩|⟨h1,hc⟩
 all_goals
  first|(rw[h]at hc;exact absurd hc (by decide))|skip
 all_goals obtain⟨k,n,s⟩:=v
 all_goals simp only at h1
 all_goals try simp only at h2
 all_goals try simp only at h3
 all_goals try simp only at h4
 ·rw[h1,h2,empty_bytes h3];exact .inl rfl
 ·rw[h1,h2,empty_bytes h3];exact .inr (.inl rfl)
 ·rw[h1,h2,empty_bytes h3];exact .inr (.inr (.inl rfl))
 ·rw[h1,empty_bytes h3];exact .inr (.inr (.inr (.inl rfl)))
 ·rw[h1,h4];exact .inr (.inr (.inr (.inr ⟨rfl,h2⟩)))
theorem cell_make (v:Val)(r:List UInt8)(h:checkV v=0)(h1: -9223372036854775808≤v.n)(h2:v.n≤9223372036854775807):cellF (keyCell v++r)=some (v,(keyCell v).length):=by
 rcases good_cells v h with e|e|e|e|⟨e,hs⟩
 ·rw[e];rfl
 ·rw[e];rfl
 ·rw[e];rfl
 ·rw[e]
  have hk:keyCell ⟨2,v.n,⟨#[]⟩⟩=2::be8 (bias v.n):=rfl;rw[hk];have hb:bias v.n<18446744073709551616:=by unfold bias;omega
  have hl:((be8 (bias v.n))++r).take 8=be8 (bias v.n):=by rw[List.take_append_of_le_length (by rw[be8_len];omega),List.take_of_length_le (by rw[be8_len];omega)]
  show(if 8≤(be8 (bias v.n)++r).length then some ((⟨2,(be8N ((be8 (bias v.n)++r).take 8):Int)-9223372036854775808,⟨#[]⟩⟩:Val),9)else none)=_;rw[if_pos (by rw[List.length_append,be8_len];omega),hl,be8_make _ hb,List.length_cons,be8_len];have:((bias v.n:Nat):Int)-9223372036854775808=v.n:=by unfold bias;omega
  rw[this]
 ·rw[e]
  have hk:keyCell ⟨3,0,v.s⟩=3::(esc v.s.toList++[0,1]):=rfl;rw[hk];show(txtF ((esc v.s.toList++[0,1])++r) 65).map (fun p=>((⟨3,0,str p.1⟩:Val),1+p.2))=_;rw[List.append_assoc];show(txtF (esc v.s.toList++(0::1::r)) 65).map (fun p=>((⟨3,0,str p.1⟩:Val),1+p.2))=_;rw[txt_make _ _ _ (by rw[toList_len];omega)];simp[str_of,Nat.add_comm]
theorem dec_make: ∀(l:List Val) (m:Nat),l.length≤m→(∀x∈l,checkV x=0∧ -9223372036854775808≤x.n∧x.n≤9223372036854775807)→decG m (keyRow l)=some l
 |[],m,_,_=>by cases m<;>rfl
 |x::l,0,h,_=>by simp at h
 |x::l,m+1,h,hh=>by
  obtain⟨h0,h1,h2⟩:=hh x (by simp);have ih:=dec_make l m (by simp at h;omega) (fun y hy=>hh y (by simp[hy]));have hc:=cell_make x (keyRow l) h0 h1 h2;have e:keyRow (x::l)=keyCell x++keyRow l:=List.flatMap_cons;rw[e];obtain⟨c,q,hq⟩: ∃c q,keyCell x=c::q:=⟨_,_,rfl⟩;rw[hq]at hc⊢;show(match cellF (c::q++keyRow l)with|none=>none|some p=>(decG m ((c::q++keyRow l).drop p.2)).map (p.1:: ·))=_;rw[hc];simp only[List.drop_left];rw[ih];rfl
end Go.Proofs.YtjhbeecmdgglgaaGreatDoor
namespace Go.Proofs.YtjhbeecmdgglgaaGreatDoor
open Go.RowKit
theorem or_byte (m:Nat)(b:UInt8):bits .or .i64 (IntKind.i64.wrap ((m:Int)*256)) (b.toNat:Int)=IntKind.i64.wrap ((m*256+b.toNat:Nat):Int):=by
 show IntKind.i64.wrap ((BitVec.ofInt 64 (IntKind.i64.wrap ((m:Int)*256))||| BitVec.ofInt 64 (b.toNat:Int)).toNat:Int)=_;have hb:=b.toNat_lt
 have e1:(BitVec.ofInt 64 (IntKind.i64.wrap ((m:Int)*256))).toNat=2 ^ 8*(m%2 ^ 56):=by
  rw[BitVec.toNat_ofInt,IntKind.wrap_i64];simp only[Nat.reducePow];omega
 have e2:(BitVec.ofInt 64 (b.toNat:Int)).toNat=b.toNat:=by
  rw[BitVec.toNat_ofInt];simp only[Nat.reducePow];omega
 rw[BitVec.toNat_or,e1,e2,←Nat.two_pow_add_eq_or_of_lt hb,IntKind.wrap_i64,IntKind.wrap_i64];simp only[Nat.reducePow];omega
end Go.Proofs.YtjhbeecmdgglgaaGreatDoor
namespace Go.Proofs.YtjhbeecmdgglgaaGreatDoor
open Go.RowKit
theorem cell2 (r:List UInt8):cellF (2::r)=if 8≤r.length then some (⟨2,(be8N (r.take 8):Int)-9223372036854775808,⟨#[]⟩⟩,9)else none:=rfl
end Go.Proofs.YtjhbeecmdgglgaaGreatDoor
namespace Go.Proofs.YtjhbeecmdgglgaaGreatDoor
open Go.RowKit
open Go.Lib (compareBytes)
theorem u8_lt {a b:UInt8}:a<b↔a.toNat<b.toNat:=UInt8.lt_iff_toNat_lt
theorem u8_lt_irr (a:UInt8): ¬a<a:=by rw[u8_lt];omega
theorem cb_lt {x y:UInt8}(a b:List UInt8)(h:x<y):compareBytes (x::a) (y::b)= -1:=by rw[compareBytes,if_pos h]
theorem cb_gt {x y:UInt8}(a b:List UInt8)(h:y<x):compareBytes (x::a) (y::b)=1:=by
 rw[compareBytes,if_neg,if_pos h];rw[u8_lt]at*;omega
theorem cb_same (x:UInt8)(a b:List UInt8):compareBytes (x::a) (x::b)=compareBytes a b:=by
 rw[compareBytes,if_neg (u8_lt_irr x),if_neg (u8_lt_irr x)]
theorem cb_prefix (p a b:List UInt8):compareBytes (p++a) (p++b)=compareBytes a b:=by
 induction p with
 |nil=>rfl
 |cons x p ih=>rw[List.cons_append,List.cons_append,cb_same,ih]
theorem cb_self (a:List UInt8):compareBytes a a=0:=by
 have:=cb_prefix a [] [];simpa[compareBytes]using this
theorem cb_zero {a b:List UInt8}(h:compareBytes a b=0):a=b:=by
 induction a generalizing b with
 |nil=>cases b with
  |nil=>rfl
  |cons y b=>simp[compareBytes]at h
 |cons x a ih=>
  cases b with
  |nil=>simp[compareBytes]at h
  |cons y b=>
   rcases Nat.lt_trichotomy x.toNat y.toNat with hl|he|hg
   ·rw[cb_lt _ _ (u8_lt.2 hl)]at h;simp at h
   ·obtain rfl:=UInt8.toNat_inj.1 he
    rw[cb_same]at h;rw[ih h]
   ·rw[cb_gt _ _ (u8_lt.2 hg)]at h;simp at h
theorem be8N_cons (x:UInt8)(a:List UInt8):be8N (x::a)=x.toNat*256 ^ a.length+be8N a:=by
 unfold be8N
 have h: ∀(l:List UInt8) (m:Nat),l.foldl (fun m b=>m*256+b.toNat) m=m*256 ^ l.length+l.foldl (fun m b=>m*256+b.toNat) 0:=by
  intro l
  induction l with
  |nil=>intro m;simp
  |cons y l ih=>
   intro m;rw[List.foldl_cons,List.foldl_cons,ih,ih (0*256+y.toNat),List.length_cons,Nat.pow_succ,Nat.zero_mul,Nat.zero_add,Nat.add_mul];rw[←Nat.add_assoc,Nat.mul_assoc,Nat.mul_comm 256]
 rw[List.foldl_cons,h];simp
theorem be8N_lt (l:List UInt8):be8N l<256 ^ l.length:=by
 induction l with
 |nil=>decide
 |cons x l ih=>
  rw[be8N_cons,List.length_cons,Nat.pow_succ];have:=x.toNat_lt;have h2:x.toNat*256 ^ l.length≤255*256 ^ l.length:=Nat.mul_le_mul_right _ (by omega);omega
theorem cb_num (a b r t:List UInt8)(h:a.length=b.length):compareBytes (a++r) (b++t)=if be8N a<be8N b then-1 else if be8N b<be8N a then 1 else compareBytes r t:=by
 induction a generalizing b with
 |nil=>
  obtain rfl:b=[]:=List.length_eq_zero_iff.1 (by simpa using h.symm);simp[be8N]
 |cons x a ih=>
  cases b with
  |nil=>simp at h
  |cons y b=>
   have hl:a.length=b.length:=by simpa using h
   have ha:=be8N_lt a;have hb:=be8N_lt b;rw[be8N_cons,be8N_cons,hl,List.cons_append,List.cons_append];rw[hl]at ha;rcases Nat.lt_trichotomy x.toNat y.toNat with h1|h1|h1
   ·rw[cb_lt _ _ (u8_lt.2 h1),if_pos]
    have:(x.toNat+1)*256 ^ b.length≤y.toNat*256 ^ b.length:=Nat.mul_le_mul_right _ h1;rw[Nat.add_mul]at this;omega
   ·obtain rfl:=UInt8.toNat_inj.1 h1
    rw[cb_same,ih b hl];by_cases hq:be8N a<be8N b
    ·rw[if_pos hq,if_pos (by omega)]
    ·by_cases hq2:be8N b<be8N a
     ·rw[if_neg hq,if_pos hq2,if_neg (by omega),if_pos (by omega)]
     ·rw[if_neg hq,if_neg hq2,if_neg (by omega),if_neg (by omega)]
   ·rw[cb_gt _ _ (u8_lt.2 h1)]
    have:(y.toNat+1)*256 ^ b.length≤x.toNat*256 ^ b.length:=Nat.mul_le_mul_right _ h1;rw[Nat.add_mul]at this;rw[if_neg (by omega),if_pos (by omega)]
theorem cb_esc (s t r q:List UInt8):compareBytes (esc s++(0::1::r)) (esc t++(0::1::q))=if s=t then compareBytes r q else compareBytes s t:=by
 have pos: ∀c:UInt8,c≠0→(0:UInt8)<c:=by
  intro c hc;rw[u8_lt];have:c.toNat≠0:=fun h=>hc (UInt8.toNat_inj.1 h);show 0<c.toNat;omega
 induction s generalizing t with
 |nil=>
  cases t with
  |nil=>rw[if_pos rfl,cb_prefix];rw[cb_same,cb_same]
  |cons d t=>
   rw[if_neg (by simp),esc_cons];show compareBytes (0::1::r) _= -1;by_cases hd:d=0
   ·subst hd
    rw[if_pos rfl];show compareBytes (0::1::r) (0::255::_)= -1;rw[cb_same,cb_lt _ _ (by decide)]
   ·rw[if_neg hd]
    exact cb_lt _ _ (pos d hd)
 |cons c s ih=>
  cases t with
  |nil=>
   rw[if_neg (by simp),esc_cons];show compareBytes _ (0::1::q)=1;by_cases hd:c=0
   ·subst hd
    rw[if_pos rfl];show compareBytes (0::255::_) (0::1::q)=1;rw[cb_same,cb_gt _ _ (by decide)]
   ·rw[if_neg hd]
    exact cb_gt _ _ (pos c hd)
  |cons d t=>
   by_cases hcd:c=d
   ·subst hcd
    rw[esc_cons,esc_cons,List.append_assoc,List.append_assoc,cb_prefix,ih t,cb_same];by_cases hst:s=t
    ·rw[if_pos hst,if_pos (by rw[hst])]
    ·rw[if_neg hst,if_neg (by simpa using hst)]
   ·rw[if_neg (by simp[hcd])]
    have hne:c.toNat≠d.toNat:=fun h=>hcd (UInt8.toNat_inj.1 h);rcases Nat.lt_or_ge c.toNat d.toNat with h1|h1
    ·have hd:d≠0:=by
      rintro rfl;have:(0:UInt8).toNat=0:=rfl;omega
     rw[cb_lt _ _ (u8_lt.2 h1),esc_cons,esc_cons,if_neg hd];by_cases hc:c=0
     ·subst hc
      rw[if_pos rfl];exact cb_lt _ _ (u8_lt.2 h1)
     ·rw[if_neg hc]
      exact cb_lt _ _ (u8_lt.2 h1)
    ·have h2:d.toNat<c.toNat:=by omega
     have hc:c≠0:=by
      rintro rfl;have:(0:UInt8).toNat=0:=rfl;omega
     rw[cb_gt _ _ (u8_lt.2 h2),esc_cons,esc_cons,if_neg hc];by_cases hd:d=0
     ·subst hd
      rw[if_pos rfl];exact cb_gt _ _ (u8_lt.2 h2)
     ·rw[if_neg hd]
      exact cb_gt _ _ (u8_lt.2 h2)
theorem ordI_lt {a b:Int}(h:a<b):ordI a b= -1:=by unfold ordI;rw[if_pos h]
theorem ordI_gt {a b:Int}(h:b<a):ordI a b=1:=by unfold ordI;rw[if_neg (by omega),if_pos h]
theorem ordI_self (a:Int):ordI a a=0:=by unfold ordI;rw[if_neg (by omega),if_neg (by omega)]
theorem cmpB_self (s:ByteArray):cmpB s s=0:=by rw[←compare_eq,cb_self]
theorem cmpV_self (x:Val):cmpV x x=0:=by
 unfold cmpV;rw[ordI_self,ordI_self,cmpB_self];rfl
theorem keyCell_hd (x:Val): ∃q,keyCell x=UInt8.ofNat x.k.toNat::q:=⟨_,rfl⟩
theorem cmpV_n {x y:Val}(h:x.k=y.k)(hs:x.s=y.s):cmpV x y=ordI x.n y.n:=by
 unfold cmpV;rw[h,hs,ordI_self,cmpB_self];unfold ordI;split
 ·rfl
 ·split<;>rfl
theorem cmpV_s {x y:Val}(h:x.k=y.k)(hs:x.n=y.n):cmpV x y=cmpB x.s y.s:=by
 unfold cmpV firstNZ;rw[h,hs,ordI_self,ordI_self];by_cases h3:cmpB x.s y.s=0
 ·rw[h3];rfl
 ·simp[h3]
theorem cmpV_k {x y:Val}(h:ordI x.k y.k≠0):cmpV x y=ordI x.k y.k:=by
 unfold cmpV firstNZ;simp[h]
theorem key_cells (x y:Val)(r t:List UInt8)(hx:checkV x=0)(hy:checkV y=0)(x1: -9223372036854775808≤x.n)(y1: -9223372036854775808≤y.n)(x2:x.n≤9223372036854775807)(y2:y.n≤9223372036854775807):
 compareBytes (keyCell x++r) (keyCell y++t)=if cmpV x y≠0 then cmpV x y else compareBytes r t:=by
 have same:x=y→compareBytes (keyCell x++r) (keyCell y++t)=if cmpV x y≠0 then cmpV x y else compareBytes r t:=by
  rintro rfl;rw[cb_prefix,cmpV_self,if_neg (by simp)]
 have hkx:x.k=0∨x.k=1∨x.k=2∨x.k=3:=by
  rcases good_cells x hx with e|e|e|e|⟨e,-⟩<;>rw[e]<;>simp
 have hky:y.k=0∨y.k=1∨y.k=2∨y.k=3:=by
  rcases good_cells y hy with e|e|e|e|⟨e,-⟩<;>rw[e]<;>simp
 by_cases hk:x.k=y.k
 ·rcases good_cells x hx with e|e|e|e|⟨e,hsx⟩<;>rcases good_cells y hy with e'|e'|e'|e'|⟨e',hsy⟩
  all_goals
   first
    |(exfalso;rw[e,e']at hk;revert hk;simp only;decide)
    |(exact same (e.trans e'.symm))
    |skip
  ·have h0:cmpV x y= -1:=by rw[e,e'];rfl
   rw[h0,e,e'];show compareBytes (1::0::r) (1::1::t)=_;rw[cb_same,cb_lt _ _ (by decide)];rfl
  ·have h0:cmpV x y=1:=by rw[e,e'];rfl
   rw[h0,e,e'];show compareBytes (1::1::r) (1::0::t)=_;rw[cb_same,cb_gt _ _ (by decide)];rfl
  ·have hc:cmpV x y=ordI x.n y.n:=cmpV_n hk (by rw[e,e'])
   rw[hc];have kx:keyCell x=2::be8 (bias x.n):=by rw[e];rfl
   have ky:keyCell y=2::be8 (bias y.n):=by rw[e'];rfl
   have bx:bias x.n<18446744073709551616:=by unfold bias;omega
   have by':bias y.n<18446744073709551616:=by unfold bias;omega
   rw[kx,ky,List.cons_append,List.cons_append,cb_same,cb_num _ _ _ _ (by rw[be8_len,be8_len]),be8_make _ bx,be8_make _ by'];rcases Int.lt_trichotomy x.n y.n with h1|h1|h1
   ·rw[ordI_lt h1,if_pos (by unfold bias;omega)];rfl
   ·rw[h1,ordI_self,if_neg (by omega),if_neg (by omega),if_neg (by simp)]
   ·rw[ordI_gt h1,if_neg (by unfold bias;omega),if_pos (by unfold bias;omega)];rfl
  ·have hc:cmpV x y=cmpB x.s y.s:=cmpV_s hk (by rw[e,e'])
   rw[hc];have kx:keyCell x=3::(esc x.s.toList++[0,1]):=by rw[e];rfl
   have ky:keyCell y=3::(esc y.s.toList++[0,1]):=by rw[e'];rfl
   rw[kx,ky,List.cons_append,List.cons_append,cb_same,List.append_assoc,List.append_assoc];show compareBytes (esc x.s.toList++(0::1::r)) (esc y.s.toList++(0::1::t))=_;rw[cb_esc,←compare_eq,←ByteArray.toList_eq,←ByteArray.toList_eq];by_cases hs:x.s.toList=y.s.toList
   ·rw[if_pos hs,hs,cb_self,if_neg (by simp)]
   ·rw[if_neg hs,if_pos (fun h=>hs (cb_zero h))]
 ·obtain⟨q,hq⟩:=keyCell_hd x
  obtain⟨p,hp⟩:=keyCell_hd y;rw[hq,hp,List.cons_append,List.cons_append];have lx:(UInt8.ofNat x.k.toNat).toNat=x.k.toNat:=by rw[UInt8.toNat_ofNat',Nat.mod_eq_of_lt (by omega)]
  have ly:(UInt8.ofNat y.k.toNat).toNat=y.k.toNat:=by rw[UInt8.toNat_ofNat',Nat.mod_eq_of_lt (by omega)]
  rcases Int.lt_or_gt_of_ne hk with h1|h1
  ·have e:=ordI_lt h1
   have hc:cmpV x y= -1:=by rw[cmpV_k (by rw[e];decide),e]
   rw[hc,cb_lt _ _ (by rw[u8_lt,lx,ly];omega)];rfl
  ·have e:=ordI_gt h1
   have hc:cmpV x y=1:=by rw[cmpV_k (by rw[e];decide),e]
   rw[hc,cb_gt _ _ (by rw[u8_lt,lx,ly];omega)];rfl
def Good (l:List Val):Prop:= ∀x∈l,checkV x=0∧ -9223372036854775808≤x.n∧x.n≤9223372036854775807
theorem key_order: ∀(a b:List Val),Good a→Good b→compareBytes (keyRow a) (keyRow b)=rowsF a b
 |[],[],_,_=>rfl
 |[],y::t,_,_=>by
  obtain⟨q,hq⟩:=keyCell_hd y;show compareBytes [] (keyRow (y::t))= -1;rw[show keyRow (y::t)=keyCell y++keyRow t from List.flatMap_cons,hq];rfl
 |x::r,[],_,_=>by
  obtain⟨q,hq⟩:=keyCell_hd x;show compareBytes (keyRow (x::r)) []=1;rw[show keyRow (x::r)=keyCell x++keyRow r from List.flatMap_cons,hq];rfl
 |x::r,y::t,ha,hb=>by
  obtain⟨c1,c2,c3⟩:=ha x (by simp);obtain⟨d1,d2,d3⟩:=hb y (by simp);have ih:=key_order r t (fun z hz=>ha z (by simp[hz])) (fun z hz=>hb z (by simp[hz]));rw[show keyRow (x::r)=keyCell x++keyRow r from List.flatMap_cons,show keyRow (y::t)=keyCell y++keyRow t from List.flatMap_cons,key_cells x y _ _ c1 d1 c2 d2 c3 d3,ih];rfl
theorem key_less {a b:List Val}(ha:Good a)(hb:Good b):Op.bytesLess (keyRow a) (keyRow b)=decide (rowsF a b<0):=by
 rw[←key_order a b ha hb,cmpB_eq];cases Op.bytesLess (keyRow a) (keyRow b)
 ·cases keyRow a==keyRow b<;>rfl
 ·rfl
theorem key_same {a b:List Val}(ha:Good a)(hb:Good b):(keyRow a==keyRow b)=decide (rowsF a b=0):=by
 rw[←key_order a b ha hb,Bool.eq_iff_iff,beq_iff_eq,decide_eq_true_iff];exact⟨fun h=>by rw[h,cb_self],cb_zero⟩
theorem key_tells {a b:List Val}(ha:Good a)(hb:Good b)(la:a.length≤8)(lb:b.length≤8):(keyRow a==keyRow b)=sameR a b:=by
 rw[Bool.eq_iff_iff,beq_iff_eq,sameR_iff];refine⟨fun h=> ?_,fun h=>by rw[h]⟩;have h1:=dec_make a 8 la ha;have h2:=dec_make b 8 lb hb;rw[h,h2]at h1;exact(Option.some.inj h1).symm
end Go.Proofs.YtjhbeecmdgglgaaGreatDoor
