/-Plans: the reference's OutOf; sameInts. Plans: Gone, and the reference's GoneAt. Plans: planBegun. Batches: rows (ErrMany and ErrType of a view of joi -/
import Derived.Test.YtjhbeecmdgglgaaGreatDoorGrpW11
import Derived.Test.YtjhbeecmdgglgaaGreatDoorGrpW13
import Derived.Test.YtjhbeecmdgglgaaGreatDoorGrpW16
import Derived.Test.YtjhbeecmdgglgaaGreatDoorGrpW23
import Derived.Test.YtjhbeecmdgglgaaGreatDoorGrpW34
import Derived.Test.YtjhbeecmdgglgaaGreatDoorGrpW30
import Derived.Test.YtjhbeecmdgglgaaGreatDoorGrpW17
import Derived.Test.YtjhbeecmdgglgaaGreatDoorGrpW12
import Derived.Test.YtjhbeecmdgglgaaGreatDoorGrpW28
set_option linter.unusedSimpArgs false
set_option linter.unusedVariables false
namespace Go.Proofs.YtjhbeecmdgglgaaGreatDoor
open Go.RowKit Go.Maps
end Go.Proofs.YtjhbeecmdgglgaaGreatDoor
namespace Go.Proofs.YtjhbeecmdgglgaaGreatDoor
open Go.RowKit Go.Maps
end Go.Proofs.YtjhbeecmdgglgaaGreatDoor
namespace Go.Proofs.YtjhbeecmdgglgaaGreatDoor
open Go.RowKit Go.Maps
theorem two_vals (W:World)(a b:Int):Sl (W.alloc (.cells #[.int .i64 2,.int .i64 a,.string ⟨#[]⟩,.int .i64 2,.int .i64 b,.string ⟨#[]⟩] 68)) (.slice (some ⟨W.heap.size,0,none⟩) 2 2) 2 (rowCells [numV a,numV b]):=
 Sl.block (Blk.new W 68 #[.int .i64 2,.int .i64 a,.string ⟨#[]⟩,.int .i64 2,.int .i64 b,.string ⟨#[]⟩]) 2 2 (Nat.le_refl _) (by decide)
set_option maxHeartbeats 400000 in
set_option maxRecDepth 10000 in
theorem lawRow_any (a b:Int)(w:World):Calls Tryz.prog 42 #[.int .i64 a,.int .i64 b] w fun e w'=> ∃v,e= .returned v∧Sl w' v 2 (rowCells [numV a,numV b])∧Below w.heap.size w w':=by
 go_enter Tryz.func42,Tryz.ntmps42
 go_wp2_with fail
 refine(num_any _ _).mono ?_;rintro e w1 ⟨rfl,hb1⟩
 go_wp2_with fail
 refine(num_any _ _).mono ?_;rintro e w2 ⟨rfl,hb2⟩;have hB:=below_trans hb1 hb2;have HS:=Lib.hid (two_vals w2 a b);go_wp2;go_ret;exact⟨_,rfl,HS.out,hB.alloc hB.size _⟩
def simpleP (vl vr vk vq:Value):Pl:=⟨1,4,-5,5,0,2,vl,vr,vk,vq,false,.slice none 0 0,.slice none 0 0,[2,2],[2,2],[0],[0],[],[]⟩
def countedP (vl vr vk vq vg va:Value):Pl:=⟨1,4,-5,5,0,2,vl,vr,vk,vq,true,vg,va,[2,2],[2,2],[0],[0],[0],[(1,0),(2,1)]⟩
theorem simple_fit (vl vr vk vq:Value):(simpleP vl vr vk vq).fit:=⟨by simp[simpleP,I64],by simp[simpleP,I64],by simp[simpleP,I64],by simp[simpleP,I64],by simp[simpleP,I64],by simp[simpleP]⟩
theorem counted_fit (vl vr vk vq vg va:Value):(countedP vl vr vk vq vg va).fit:=⟨by simp[countedP,I64],by simp[countedP,I64],by simp[countedP,I64],by simp[countedP,I64],by simp[countedP,I64],by simp[countedP]⟩
theorem simple_check (vl vr vk vq:Value):checkP (simpleP vl vr vk vq)=0:=by rfl
theorem counted_check (vl vr vk vq vg va:Value):checkP (countedP vl vr vk vq vg va)=0:=by rfl
theorem lit_sl (W:World)(l:List Int)(hl:l.length≤1000)(cs:Array Value)(h:cs.toList=intCells l):Sl (W.alloc (.cells cs 3)) (.slice (some ⟨W.heap.size,0,none⟩) l.length l.length) l.length (intCells l):=by
 rw[←h];exact Sl.block (Blk.new W 3 cs) _ _ (Nat.le_refl _) (by unfold maxLen;omega)
set_option maxHeartbeats 4000000 in
set_option maxRecDepth 10000 in
theorem simple_any (w:World):Calls Tryz.prog 41 #[] w fun e w'=> ∃vl vr vk vq,e= .returned (.agg #[.int .i64 1,.int .i64 4,.int .i64 (-5),.int .i64 5,.int .i64 0,.int .i64 2,vl,vr,vk,vq,.bool false,.slice none 0 0,.slice none 0 0])∧(simpleP vl vr vk vq).ok w'∧(∀k,vl.ownBlock=some k→w.heap.size≤k)∧(∀k,vr.ownBlock=some k→w.heap.size≤k)∧(∀k,vk.ownBlock=some k→w.heap.size≤k)∧(∀k,vq.ownBlock=some k→w.heap.size≤k)∧Below w.heap.size w w':=by
 go_enter Tryz.func41,Tryz.ntmps41
 go_wp2;have S1:=lit_sl (w.alloc (.cells #[.int .i64 1,.int .i64 4,.int .i64 (-5),.int .i64 5,.int .i64 0,.int .i64 2,.slice (some ⟨w.heap.size+1,0,none⟩) 2 2,.slice (some ⟨w.heap.size+1,0,none⟩) 2 2,.slice (some ⟨w.heap.size+1+1,0,none⟩) 1 1,.slice (some ⟨w.heap.size+1+1+1,0,none⟩) 1 1,.bool false,.slice none 0 0,.slice none 0 0] 25)) [2,2] (by decide) #[.int .i64 2,.int .i64 2] rfl;have S2:=lit_sl ((w.alloc (.cells #[.int .i64 1,.int .i64 4,.int .i64 (-5),.int .i64 5,.int .i64 0,.int .i64 2,.slice (some ⟨w.heap.size+1,0,none⟩) 2 2,.slice (some ⟨w.heap.size+1,0,none⟩) 2 2,.slice (some ⟨w.heap.size+1+1,0,none⟩) 1 1,.slice (some ⟨w.heap.size+1+1+1,0,none⟩) 1 1,.bool false,.slice none 0 0,.slice none 0 0] 25)).alloc (.cells #[.int .i64 2,.int .i64 2] 3)) [0] (by decide) #[.int .i64 0] rfl;have S3:=lit_sl (((w.alloc (.cells #[.int .i64 1,.int .i64 4,.int .i64 (-5),.int .i64 5,.int .i64 0,.int .i64 2,.slice (some ⟨w.heap.size+1,0,none⟩) 2 2,.slice (some ⟨w.heap.size+1,0,none⟩) 2 2,.slice (some ⟨w.heap.size+1+1,0,none⟩) 1 1,.slice (some ⟨w.heap.size+1+1+1,0,none⟩) 1 1,.bool false,.slice none 0 0,.slice none 0 0] 25)).alloc (.cells #[.int .i64 2,.int .i64 2] 3)).alloc (.cells #[.int .i64 0] 3)) [0] (by decide) #[.int .i64 0] rfl;have hB:=below_trans (below_trans (below_trans (below_alloc w (.cells #[.int .i64 1,.int .i64 4,.int .i64 (-5),.int .i64 5,.int .i64 0,.int .i64 2,.slice (some ⟨w.heap.size+1,0,none⟩) 2 2,.slice (some ⟨w.heap.size+1,0,none⟩) 2 2,.slice (some ⟨w.heap.size+1+1,0,none⟩) 1 1,.slice (some ⟨w.heap.size+1+1+1,0,none⟩) 1 1,.bool false,.slice none 0 0,.slice none 0 0] 25)) (below_alloc _ (.cells #[.int .i64 2,.int .i64 2] 3))) (below_alloc _ (.cells #[.int .i64 0] 3))) (below_alloc _ (.cells #[.int .i64 0] 3));have S1':=(S1.below (below_alloc _ (.cells #[.int .i64 0] 3))).below (below_alloc _ (.cells #[.int .i64 0] 3));have S2':=S2.below (below_alloc _ (.cells #[.int .i64 0] 3));simp only[World.size_alloc]at S1' S2' S3;refine bodyPost_ret (v:= .agg #[.int .i64 1,.int .i64 4,.int .i64 (-5),.int .i64 5,.int .i64 0,.int .i64 2,.slice (some ⟨w.heap.size+1,0,none⟩) 2 2,.slice (some ⟨w.heap.size+1,0,none⟩) 2 2,.slice (some ⟨w.heap.size+1+1,0,none⟩) 1 1,.slice (some ⟨w.heap.size+1+1+1,0,none⟩) 1 1,.bool false,.slice none 0 0,.slice none 0 0]) (by simp[results,Tryz.results41,go_sem]) rfl ?_;refine⟨_,_,_,_,rfl,⟨S1',S1',S2',S3,Sl.nil_ _,Sl.nil_ _⟩,fresh_some (by omega),fresh_some (by omega),fresh_some (by omega),fresh_some (by omega),hB⟩
theorem two_aggs (W:World):Sl (W.alloc (.cells #[.int .i64 1,.int .i64 0,.int .i64 2,.int .i64 1] 94)) (.slice (some ⟨W.heap.size,0,none⟩) 2 2) 2 (aggCells [(1,0),(2,1)]):=
 Sl.block (Blk.new W 94 #[.int .i64 1,.int .i64 0,.int .i64 2,.int .i64 1]) 2 2 (Nat.le_refl _) (by decide)
theorem Sl.sets {w:World}{v:Value}{n g:Nat}{cs:List Value}(h:Sl w v n cs)(hp: ∀k,v.ownBlock=some k→k≠g)(l:List (Nat×Value)):Sl (l.foldl (fun w q=>w.setCell ⟨g,q.1,none⟩ q.2) w) v n cs:=by
 induction l generalizing w with
 |nil=>exact h
 |cons q l ih=>exact ih (h.setCell hp q.2)
theorem below_sets {B g:Nat}{a w:World}(h:Below B a w)(hg:B≤g)(l:List (Nat×Value)):Below B a (l.foldl (fun w q=>w.setCell ⟨g,q.1,none⟩ q.2) w):=by
 induction l generalizing w with
 |nil=>exact h
 |cons q l ih=>exact ih (h.setCell hg q.2)
set_option maxHeartbeats 4000000 in
set_option maxRecDepth 10000 in
theorem counted_any (w:World):Calls Tryz.prog 43 #[] w fun e w'=> ∃vl vr vk vq vg va,e= .returned (.agg #[.int .i64 1,.int .i64 4,.int .i64 (-5),.int .i64 5,.int .i64 0,.int .i64 2,vl,vr,vk,vq,.bool true,vg,va])∧(countedP vl vr vk vq vg va).ok w'∧Below w.heap.size w w':=by
 have hB:=below_alloc w (.cells #[.int .i64 0,.int .i64 0,.int .i64 0,.int .i64 0,.int .i64 0,.int .i64 0,.slice none 0 0,.slice none 0 0,.slice none 0 0,.slice none 0 0,.bool false,.slice none 0 0,.slice none 0 0] 25);have K0:=Blk.new w 25 #[.int .i64 0,.int .i64 0,.int .i64 0,.int .i64 0,.int .i64 0,.int .i64 0,.slice none 0 0,.slice none 0 0,.slice none 0 0,.slice none 0 0,.bool false,.slice none 0 0,.slice none 0 0];go_enter Tryz.func43,Tryz.ntmps43
 go_wp2_with fail
 refine(simple_any _).mono ?_;rintro e w1 ⟨vl,vr,vk,vq,rfl,hok,hl,hr,hk',hq,hb1⟩;have K1:=K0.below hb1;have HOK:=Lib.hid hok;obtain⟨⟨A0,c0,e0,-⟩,⟨A1,c1,e1,-⟩,⟨A2,c2,e2,-⟩,⟨A3,c3,e3,-⟩,-,-⟩:=hok;simp only[simpleP]at e0 e1 e2 e3;subst e0 e1 e2 e3;have K2:=((K1.alloc (.cells #[.int .i64 1,.int .i64 4,.int .i64 (-5),.int .i64 5,.int .i64 0,.int .i64 2,.slice A0 2 c0,.slice A1 2 c1,.slice A2 1 c2,.slice A3 1 c3,.bool true,.slice (some ⟨w1.heap.size+1,0,none⟩) 1 1,.slice (some ⟨w1.heap.size+1+1,0,none⟩) 2 2] 25)).alloc (.cells #[.int .i64 0] 3)).alloc (.cells #[.int .i64 1,.int .i64 0,.int .i64 2,.int .i64 1] 94);obtain⟨y0,y1,y2,y3,y4,y5,y6,y7,y8,y9,y10,y11,y12⟩:=pl_cells K2;have f0:=K2.free 0;have f1:=K2.free 1;have f2:=K2.free 2;have f3:=K2.free 3;have f4:=K2.free 4;have f5:=K2.free 5;have f6:=K2.free 6;have f7:=K2.free 7;have f8:=K2.free 8;have f9:=K2.free 9;have f10:=K2.free 10;have f11:=K2.free 11;have f12:=K2.free 12;go_wp2;have K3:Blk _ w.heap.size 25 #[.int .i64 1,.int .i64 4,.int .i64 (-5),.int .i64 5,.int .i64 0,.int .i64 2,.slice A0 2 c0,.slice A1 2 c1,.slice A2 1 c2,.slice A3 1 c3,.bool true,.slice (some ⟨w1.heap.size+1,0,none⟩) 1 1,.slice (some ⟨w1.heap.size+1+1,0,none⟩) 2 2]:=(((((((((((((K2.set_ 0 (.int .i64 1)).set_ 1 (.int .i64 4)).set_ 2 (.int .i64 (-5))).set_ 3 (.int .i64 5)).set_ 4 (.int .i64 0)).set_ 5 (.int .i64 2)).set_ 6 (.slice A0 2 c0)).set_ 7 (.slice A1 2 c1)).set_ 8 (.slice A2 1 c2)).set_ 9 (.slice A3 1 c3)).set_ 10 (.bool true)).set_ 11 (.slice (some ⟨w1.heap.size+1,0,none⟩) 1 1)).set_ 12 (.slice (some ⟨w1.heap.size+1+1,0,none⟩) 2 2));obtain⟨z0,z1,z2,z3,z4,z5,z6,z7,z8,z9,z10,z11,z12⟩:=pl_cells K3;refine bodyPost_ret (v:= .agg #[.int .i64 1,.int .i64 4,.int .i64 (-5),.int .i64 5,.int .i64 0,.int .i64 2,.slice A0 2 c0,.slice A1 2 c1,.slice A2 1 c2,.slice A3 1 c3,.bool true,.slice (some ⟨w1.heap.size+1,0,none⟩) 1 1,.slice (some ⟨w1.heap.size+1+1,0,none⟩) 2 2]) (by simp[results,Tryz.results43,go_sem,z0,z1,z2,z3,z4,z5,z6,z7,z8,z9,z10,z11,z12]) rfl ?_;have hw1:w.heap.size+1≤w1.heap.size:=by have:=hb1.size;simpa using this
 have b1:=below_alloc w1 (.cells #[.int .i64 1,.int .i64 4,.int .i64 (-5),.int .i64 5,.int .i64 0,.int .i64 2,.slice A0 2 c0,.slice A1 2 c1,.slice A2 1 c2,.slice A3 1 c3,.bool true,.slice (some ⟨w1.heap.size+1,0,none⟩) 1 1,.slice (some ⟨w1.heap.size+1+1,0,none⟩) 2 2] 25);have b2:=below_trans b1 (below_alloc _ (.cells #[.int .i64 0] 3));have b3:=below_trans b2 (below_alloc _ (.cells #[.int .i64 1,.int .i64 0,.int .i64 2,.int .i64 1] 94));have SG:=(lit_sl (w1.alloc (.cells #[.int .i64 1,.int .i64 4,.int .i64 (-5),.int .i64 5,.int .i64 0,.int .i64 2,.slice A0 2 c0,.slice A1 2 c1,.slice A2 1 c2,.slice A3 1 c3,.bool true,.slice (some ⟨w1.heap.size+1,0,none⟩) 1 1,.slice (some ⟨w1.heap.size+1+1,0,none⟩) 2 2] 25)) [0] (by decide) #[.int .i64 0] rfl).below (below_alloc _ (.cells #[.int .i64 1,.int .i64 0,.int .i64 2,.int .i64 1] 94));have SA:=two_aggs ((w1.alloc (.cells #[.int .i64 1,.int .i64 4,.int .i64 (-5),.int .i64 5,.int .i64 0,.int .i64 2,.slice A0 2 c0,.slice A1 2 c1,.slice A2 1 c2,.slice A3 1 c3,.bool true,.slice (some ⟨w1.heap.size+1,0,none⟩) 1 1,.slice (some ⟨w1.heap.size+1+1,0,none⟩) 2 2] 25)).alloc (.cells #[.int .i64 0] 3));simp only[World.size_alloc]at SG SA;have hok:=HOK.out;refine⟨_,_,_,_,_,_,rfl,⟨?_,?_,?_,?_,?_,?_⟩,?_⟩
 ·exact(hok.l.below b3).sets (fun k hk=>by have:=hl k hk;simp at this;omega) [(0,.int .i64 1),(1,.int .i64 4),(2,.int .i64 (-5)),(3,.int .i64 5),(4,.int .i64 0),(5,.int .i64 2),(6,.slice A0 2 c0),(7,.slice A1 2 c1),(8,.slice A2 1 c2),(9,.slice A3 1 c3),(10,.bool true),(11,.slice (some ⟨w1.heap.size+1,0,none⟩) 1 1),(12,.slice (some ⟨w1.heap.size+1+1,0,none⟩) 2 2)]
 ·exact(hok.r.below b3).sets (fun k hk=>by have:=hr k hk;simp at this;omega) [(0,.int .i64 1),(1,.int .i64 4),(2,.int .i64 (-5)),(3,.int .i64 5),(4,.int .i64 0),(5,.int .i64 2),(6,.slice A0 2 c0),(7,.slice A1 2 c1),(8,.slice A2 1 c2),(9,.slice A3 1 c3),(10,.bool true),(11,.slice (some ⟨w1.heap.size+1,0,none⟩) 1 1),(12,.slice (some ⟨w1.heap.size+1+1,0,none⟩) 2 2)]
 ·exact(hok.k.below b3).sets (fun k hk=>by have:=hk' k hk;simp at this;omega) [(0,.int .i64 1),(1,.int .i64 4),(2,.int .i64 (-5)),(3,.int .i64 5),(4,.int .i64 0),(5,.int .i64 2),(6,.slice A0 2 c0),(7,.slice A1 2 c1),(8,.slice A2 1 c2),(9,.slice A3 1 c3),(10,.bool true),(11,.slice (some ⟨w1.heap.size+1,0,none⟩) 1 1),(12,.slice (some ⟨w1.heap.size+1+1,0,none⟩) 2 2)]
 ·exact(hok.q.below b3).sets (fun k hk=>by have:=hq k hk;simp at this;omega) [(0,.int .i64 1),(1,.int .i64 4),(2,.int .i64 (-5)),(3,.int .i64 5),(4,.int .i64 0),(5,.int .i64 2),(6,.slice A0 2 c0),(7,.slice A1 2 c1),(8,.slice A2 1 c2),(9,.slice A3 1 c3),(10,.bool true),(11,.slice (some ⟨w1.heap.size+1,0,none⟩) 1 1),(12,.slice (some ⟨w1.heap.size+1+1,0,none⟩) 2 2)]
 ·exact SG.sets (fun k hk=>by simp[Value.ownBlock]at hk;omega) [(0,.int .i64 1),(1,.int .i64 4),(2,.int .i64 (-5)),(3,.int .i64 5),(4,.int .i64 0),(5,.int .i64 2),(6,.slice A0 2 c0),(7,.slice A1 2 c1),(8,.slice A2 1 c2),(9,.slice A3 1 c3),(10,.bool true),(11,.slice (some ⟨w1.heap.size+1,0,none⟩) 1 1),(12,.slice (some ⟨w1.heap.size+1+1,0,none⟩) 2 2)]
 ·exact SA.sets (fun k hk=>by simp[Value.ownBlock]at hk;omega) [(0,.int .i64 1),(1,.int .i64 4),(2,.int .i64 (-5)),(3,.int .i64 5),(4,.int .i64 0),(5,.int .i64 2),(6,.slice A0 2 c0),(7,.slice A1 2 c1),(8,.slice A2 1 c2),(9,.slice A3 1 c3),(10,.bool true),(11,.slice (some ⟨w1.heap.size+1,0,none⟩) 1 1),(12,.slice (some ⟨w1.heap.size+1+1,0,none⟩) 2 2)]
 ·exact below_sets (below_trans (below_trans hB hb1) b3) (Nat.le_refl _) [(0,.int .i64 1),(1,.int .i64 4),(2,.int .i64 (-5)),(3,.int .i64 5),(4,.int .i64 0),(5,.int .i64 2),(6,.slice A0 2 c0),(7,.slice A1 2 c1),(8,.slice A2 1 c2),(9,.slice A3 1 c3),(10,.bool true),(11,.slice (some ⟨w1.heap.size+1,0,none⟩) 1 1),(12,.slice (some ⟨w1.heap.size+1+1,0,none⟩) 2 2)]
end Go.Proofs.YtjhbeecmdgglgaaGreatDoor
namespace Go.Proofs.YtjhbeecmdgglgaaGreatDoor
open Go.RowKit
def longB (n:Nat) (l:List (List Val)):Bool:=l.all fun r=>r.length==n
def typB (t:List Int) (l:List (List Val)):Bool:=l.all fun r=>allB fitOne (t.zip r)
def rowsE (t:List Int) (l:List (List Val)):Int:=if longB t.length l=false then 2 else if typB t l=false then 5 else 0
def rsV (l:List Cnt):List (List Val):=l.map (·.r)
theorem rsV_at {l:List Cnt}{k:Nat}{x:Cnt}(h:l[k]?=some x):(rsV l)[k]?=some x.r:=by unfold rsV;rw[List.getElem?_map,h];rfl
theorem rsV_len (l:List Cnt):(rsV l).length=l.length:=List.length_map _
set_option maxHeartbeats 4000000 in
set_option maxRecDepth 10000 in
theorem brows_any (p:Pl)(v:Value)(l:List Cnt)(w:World)(h:p.ok w)(hz:checkP p=0)(hV:View w v l):
 Calls Tryz.prog 54 #[.agg #[.int .i64 p.kind,.int .i64 p.mode,.int .i64 p.low,.int .i64 p.high,.int .i64 p.size,.int .i64 p.limit,p.vl,p.vr,p.vk,p.vq,.bool p.grouped,p.vg,p.va],v] w fun e w'=>e= .returned (.int .i64 (rowsE (allT p) (rsV l)))∧Below w.heap.size w w':=by
 have HL:=Lib.hid h.l;have HR:=Lib.hid h.r;have HV:=Lib.hid hV;have hsh:=counts_short (check_ok hz).2.2.1;have hl1:=hsh.l1;have hl2:=hsh.l2;have hr1:=hsh.r1;have hr2:=hsh.r2;obtain⟨A0,c0,h0,n0,m0,-⟩:=id HL.out;obtain⟨A1,c1,h1,n1,m1,-⟩:=id HR.out;obtain⟨A2,c2,h2,-⟩:=h.k;obtain⟨A3,c3,h3,-⟩:=h.q;obtain⟨A4,c4,h4,-⟩:=h.g;obtain⟨A5,c5,h5,-⟩:=h.a;obtain⟨Av,cv,rfl,nv,mv,-⟩:=id hV.sl;rw[h0]at HL;rw[h1]at HR;rw[h0,h1,h2,h3,h4,h5];unfold maxLen at m0 m1 mv;have hcat:allT p=p.left++p.right:=rfl;rw[hcat];have hB:=below_alloc w (.cells #[.int .i64 p.kind,.int .i64 p.mode,.int .i64 p.low,.int .i64 p.high,.int .i64 p.size,.int .i64 p.limit,.slice A0 p.left.length c0,.slice A1 p.right.length c1,.slice A2 p.lkeys.length c2,.slice A3 p.rkeys.length c3,.bool p.grouped,.slice A4 p.group.length c4,.slice A5 p.aggs.length c5] 25);have K1:=Blk.new w 25 #[.int .i64 p.kind,.int .i64 p.mode,.int .i64 p.low,.int .i64 p.high,.int .i64 p.size,.int .i64 p.limit,.slice A0 p.left.length c0,.slice A1 p.right.length c1,.slice A2 p.lkeys.length c2,.slice A3 p.rkeys.length c3,.bool p.grouped,.slice A4 p.group.length c4,.slice A5 p.aggs.length c5];have y6:=K1.cell 6 _ rfl;have y7:=K1.cell 7 _ rfl;obtain⟨wa,hwa⟩: ∃V,w.alloc (.cells #[.int .i64 p.kind,.int .i64 p.mode,.int .i64 p.low,.int .i64 p.high,.int .i64 p.size,.int .i64 p.limit,.slice A0 p.left.length c0,.slice A1 p.right.length c1,.slice A2 p.lkeys.length c2,.slice A3 p.rkeys.length c3,.bool p.grouped,.slice A4 p.group.length c4,.slice A5 p.aggs.length c5] 25)=V:=⟨_,rfl⟩;rw[hwa]at hB y6 y7;have hB2:=hB.alloc hB.size (.cells #[.slice A0 p.left.length c0,.slice A1 p.right.length c1] 22);have HT:=Lib.hid (two_sl wa (.slice A0 p.left.length c0) (.slice A1 p.right.length c1));have HC:=Lib.hid (concat_any _ _ _ p.left p.right _ HT.out (HL.out.below hB2) (HR.out.below hB2) (by omega) (by omega));clear K1 h h0 h1 h2 h3 h4 h5 hV hsh hcat HT;generalize p.left++p.right=t at HC⊢;obtain⟨R,hR⟩: ∃R,rowsE t (rsV l)=R:=⟨_,rfl⟩;rw[hR];have HRR:Hid (R=if longB t.length (rsV l)=false then 2 else if typB t (rsV l)=false then 5 else 0):=Lib.hid hR.symm;clear hR;go_enter Tryz.func54,Tryz.ntmps54
 go_wp2_with (rw[hwa];clear hwa;skip)
 refine Calls.mono (by with_reducible exact HC.out) ?_;rintro e w2 ⟨vt,rfl,hst,-,hb2⟩;have hbw2:=below_trans hB2 hb2;have HST:=Lib.hid hst;obtain⟨At,ct,rfl,nt,mt,-⟩:=id hst;unfold maxLen at mt;clear y6 y7 hB hB2 hb2 HC hst
 go_wp2_with fail
 go_loopw[7,20] (fun _ i wr=> ∃k:Nat,k≤l.length∧i= .int .i64 k∧Hid (∀r∈(rsV l).take k,(r.length==t.length)=true)∧Below w.heap.size w wr∧Below w2.heap.size w2 wr) (fun _ i _=>l.length-(intOf i).toNat)
 case atStart=>exact⟨0,by omega,rfl,by simp[Hid],hbw2,Below.refl _ _⟩
 case round=>
  rename World=>wr
  obtain⟨k,hk,rfl,H,hbr,hb2r⟩:=hrel;by_cases hlt:k<l.length
  ·have hx:=List.getElem?_eq_getElem (l:=l) hlt
   generalize l[k]=x at hx;obtain⟨bv,ov,hAv,-,hc⟩:=cnt_at HV.out.sl rfl hx;subst hAv;obtain⟨d0,d1⟩:=hc _ hbr;obtain⟨Ax,cx,ex,nx,mx,-⟩:=id (HV.out.rows x (List.mem_of_getElem? hx));rw[ex]at d0;have HX:=Lib.hid (rsV_at hx);have k0:(0:Int)≤(k:Int):=by omega
   have k1:(k:Int)<(l.length:Int):=by omega
   have HBZ:=Lib.hid (hbr.alloc hbr.size (.cells #[.slice Ax x.r.length cx,.int .i64 x.n] 45));have HBZ2:=Lib.hid (hb2r.alloc hb2r.size (.cells #[.slice Ax x.r.length cx,.int .i64 x.n] 45));clear hx hc ex;unfold maxLen at mx;by_cases hq:x.r.length=t.length
   ·have q1:((x.r.length:Int) !=(t.length:Int))=false:=by rw[hq];simp
    have HN:=Lib.hid (all_step (f:=fun r:List Val=>r.length==t.length) H.out HX.out (by simpa using hq));clear hq
    go_wp2_with fail
    go_roundw
    case rel=>exact⟨k+1,by omega,by go_num,HN.out,HBZ.out,HBZ2.out⟩
    case measure=>simp[intOf];omega
   ·have q1:((x.r.length:Int) !=(t.length:Int))=true:=by simp;omega
    have HE:Hid (R=2):=Lib.hid (by
     have e:=all_no (f:=fun r:List Val=>r.length==t.length) HX.out (by simpa using hq);rw[HRR.out,if_pos (show longB t.length (rsV l)=false from e)])
    clear hq
    go_wp2_with fail
    go_ret;exact⟨by rw[HE.out];rfl,HBZ.out⟩
  ·obtain rfl:k=l.length:=by omega
   have HLL:Hid (longB t.length (rsV l)=true):=Lib.hid (all_yes (by rw[rsV_len];exact H.out));have HR2:Hid (R=if typB t (rsV l)=false then 5 else 0):=Lib.hid (by rw[HRR.out,HLL.out];rfl)
   have HLA:Hid (∀x∈l,x.r.length=t.length):=Lib.hid (fun x hx=>by
    have h1:=HLL.out;unfold longB at h1;rw[List.all_eq_true]at h1;simpa using h1 x.r (List.mem_map.2 ⟨x,hx,rfl⟩))
   clear H HRR HLL hbw2;have hbw2:=hbr
   go_wp2_with fail
   go_loopw[9,33] (fun _ i wr=> ∃k:Nat,k≤l.length∧i= .int .i64 k∧Hid (∀r∈(rsV l).take k,allB fitOne (t.zip r)=true)∧Below w.heap.size w wr∧Below w2.heap.size w2 wr) (fun _ i _=>l.length-(intOf i).toNat)
   case atStart=>exact⟨0,by omega,rfl,by simp[Hid],hbr,hb2r⟩
   case round=>
    clear hbr hb2r hbw2 hk hlt;rename World=>wr1
    obtain⟨k,hk,rfl,H,hbr,hb2r⟩:=hrel;by_cases hlt:k<l.length
    ·have hx:=List.getElem?_eq_getElem (l:=l) hlt
     generalize l[k]=x at hx;obtain⟨bv,ov,hAv,-,hc⟩:=cnt_at HV.out.sl rfl hx;subst hAv;obtain⟨d0,d1⟩:=hc _ hbr;have hxm:=List.mem_of_getElem? hx;obtain⟨Ax,cx,ex,nx,mx,-⟩:=id (HV.out.rows x hxm);have HXR:=Lib.hid (HV.out.rows x hxm);rw[ex]at d0 HXR;have HX:=Lib.hid (rsV_at hx);have hxl:=HLA.out x hxm;have k0:(0:Int)≤(k:Int):=by omega
     have k1:(k:Int)<(l.length:Int):=by omega
     have HBZ:=Lib.hid (hbr.alloc hbr.size (.cells #[.slice Ax x.r.length cx,.int .i64 x.n] 45));have HBZ2:=Lib.hid (hb2r.alloc hb2r.size (.cells #[.slice Ax x.r.length cx,.int .i64 x.n] 45));have hle:x.r.length≤t.length:=by omega
     have HLE:=Lib.hid hle;clear hx hc ex hxm hxl;unfold maxLen at mx
     go_wp2_with fail
     go_loopw[10,11,40] (fun _ _ i wr=> ∃j:Nat,j≤x.r.length∧i= .int .i64 j∧Hid (∀q∈(t.zip x.r).take j,fitOne q=true)∧Below w.heap.size w wr∧Below w2.heap.size w2 wr) (fun _ _ i _=>x.r.length-(intOf i).toNat)
     case atStart=>exact⟨0,by omega,rfl,by simp[Hid],HBZ.out,HBZ2.out⟩
     case round=>
      clear HBZ HBZ2 hbr hb2r d0 d1;rename World=>wr2
      obtain⟨j,hj,rfl,HJ,hbr,hb2r⟩:=hrel;by_cases hjl:j<x.r.length
      ·have hy:=List.getElem?_eq_getElem (l:=x.r) hjl
       generalize x.r[j]=y at hy;obtain⟨g,off,hAg,-,hc⟩:=val_at HXR.out rfl hy;subst hAg;obtain⟨d1,d2,d3⟩:=hc _ hbr;have hj2:j<t.length:=by omega
       obtain⟨bt,ot,hAt,-,hct⟩:=int_at HST.out rfl hj2;subst hAt;have HBY:=hbr.alloc hbr.size (.cells #[.int .i64 y.k,.int .i64 y.n,.string y.s] 68);have HBY2:=hb2r.alloc hb2r.size (.cells #[.int .i64 y.k,.int .i64 y.n,.string y.s] 68);have d4:=hct _ HBY2;have gt:t[j]?=some (t.getD j 0):=by simp[hj2]
       generalize t.getD j 0=z at d4 gt;have HG:=Lib.hid (show(t.zip x.r)[j]?=some (z,y)from by rw[List.getElem?_zip_eq_some];exact⟨gt,hy⟩);have HFO:=Lib.hid (show fitOne (z,y)=(y.k==0||y.k==z)from rfl);clear hy hc hct gt;have j0:(0:Int)≤(j:Int):=by omega
       have j1:(j:Int)<(t.length:Int):=by omega
       have j2:(j:Int)<(x.r.length:Int):=by omega
       cases hq:(y.k==0)
       ·have hq2:=bne_of hq
        simp only[Bool.not_false]at hq2;cases hz:(y.k==z)
        ·have hz2:=bne_of hz
         simp only[Bool.not_false]at hz2;have e1:=Lib.hid (all_no (f:=fitOne) HG.out (by rw[HFO.out,hq,hz];rfl))
         have EE:Hid (R=5):=Lib.hid (by
          have e:=all_no (f:=fun r:List Val=>allB fitOne (t.zip r)) HX.out e1.out;rw[HR2.out,if_pos (show typB t (rsV l)=false from e)])
         go_wp2_with fail
         go_quiet (fail)
         go_wp2;go_ret;exact⟨by rw[EE.out];rfl,below_drewN HBY _⟩
        ·have hz2:=bne_of hz
         simp only[Bool.not_true]at hz2;have e1:=Lib.hid (all_step (f:=fitOne) HJ.out HG.out (by rw[HFO.out,hz,Bool.or_true]))
         go_wp2_with fail
         go_quiet (fail)
         go_wp2;go_roundw
         case rel=>exact⟨j+1,by omega,by go_num,e1.out,below_drewN HBY _,below_drewN HBY2 _⟩
         case measure=>simp[intOf];omega
       ·have hq2:=bne_of hq
        simp only[Bool.not_true]at hq2;have e1:=Lib.hid (all_step (f:=fitOne) HJ.out HG.out (by rw[HFO.out,hq,Bool.true_or]))
        go_wp2_with fail
        go_quiet (fail)
        go_wp2;go_roundw
        case rel=>exact⟨j+1,by omega,by go_num,e1.out,below_drewN HBY _,below_drewN HBY2 _⟩
        case measure=>simp[intOf];omega
      ·obtain rfl:j=x.r.length:=by omega
       have e1:allB fitOne (t.zip x.r)=true:=all_yes (by
        have hzl:(t.zip x.r).length=x.r.length:=by rw[List.length_zip];omega
        rw[hzl];exact HJ.out)
       have HN:=Lib.hid (all_step (f:=fun r:List Val=>allB fitOne (t.zip r)) H.out HX.out e1);clear e1
       go_wp2_with fail
       go_roundw
       case rel=>exact⟨k+1,by omega,by go_num,HN.out,hbr,hb2r⟩
       case measure=>simp[intOf];omega
    ·obtain rfl:k=l.length:=by omega
     have HE:Hid (R=0):=Lib.hid (by
      have e:typB t (rsV l)=true:=all_yes (by rw[rsV_len];exact H.out);rw[HR2.out,e];rfl)
     go_wp2;go_ret;exact⟨by rw[HE.out];rfl,hbr⟩
end Go.Proofs.YtjhbeecmdgglgaaGreatDoor
namespace Go.Proofs.YtjhbeecmdgglgaaGreatDoor
def hasR (rows:List (List Val)) (r:List Val):Bool:=rows.any fun x=>decide (x=r)
def cntR (rows:List (List Val)) (r:List Val):Int:=((rows.filter fun x=>decide (x=r)).length:Nat)
theorem viewN_tells: ∀n,∀rows:List (List Val),rows.length=n→(∀r∈rows,GoodR r)→n≤4096→VR rows (rows.foldl (fun A r=>(addR A r 1).1) [])∧ ∀r,GoodR r→hasA (rows.foldl (fun A r=>(addR A r 1).1) []) r=hasR rows r∧lookA (rows.foldl (fun A r=>(addR A r 1).1) []) r=cntR rows r
 |0,rows,hl,_,_=>by
  have:rows=[]:=List.eq_nil_of_length_eq_zero hl;subst this;exact⟨VR.start,fun r _=>⟨rfl,rfl⟩⟩
 |n+1,rows,hl,hg,hn=>by
  rcases List.eq_nil_or_concat rows with rfl|⟨l,x,rfl⟩
  ·simp at hl
  ·rw[List.concat_eq_append]at hl hg⊢
   rw[List.length_append]at hl;have hl':l.length=n:=by simpa using hl
   obtain⟨h1,h2⟩:=viewN_tells n l hl' (fun r hr=>hg r (by simp[hr])) (by omega);have hx:=hg x (by simp);have h3:=h1.step (r:=x) (by omega) hx;rw[List.foldl_append];generalize l.foldl (fun A r=>(addR A r 1).1) []=A at h1 h2 h3;refine⟨h3,fun r hr=> ?_⟩;have e:=i_add (r:=x) h1.nums h1.len (by omega);show hasA (addR A x 1).1 r=_∧lookA (addR A x 1).1 r=_;rw[e];show hasA (putA A x (lookA A x+1)) r=_∧lookA (putA A x (lookA A x+1)) r=_;rw[has_put h1.rises hx hr,look_put h1.rises hx hr,(h2 r hr).1,(h2 r hr).2,(h2 x hx).2];unfold hasR cntR;rw[List.any_append,List.filter_append,List.length_append];by_cases exr:x=r
   ·subst exr
    simp
   ·simp[exr]
theorem viewR_N {rows:List (List Val)}(hg: ∀r∈rows,GoodR r)(hl:rows.length≤4096):viewR rows=rows.foldl (fun A r=>(addR A r 1).1) []:=((viewN_tells _ rows rfl hg hl).1.done hl).symm
theorem viewR_perm {rows rows':List (List Val)}(hg: ∀r∈rows,GoodR r)(hl:rows.length≤4096)(h:rows.Perm rows'):viewR rows=viewR rows':=by
 have hg': ∀r∈rows',GoodR r:=fun r hr=>hg r (h.mem_iff.2 hr);have hl':rows'.length≤4096:=by rw[←h.length_eq];exact hl
 rw[viewR_N hg hl,viewR_N hg' hl'];obtain⟨a1,a2⟩:=viewN_tells _ rows rfl hg hl;obtain⟨b1,b2⟩:=viewN_tells _ rows' rfl hg' hl';refine rises_ext a1.rises b1.rises fun r hr=> ?_;rw[(a2 r hr).1,(a2 r hr).2,(b2 r hr).1,(b2 r hr).2];refine⟨?_,?_⟩
 ·unfold hasR
  rw[Bool.eq_iff_iff,List.any_eq_true,List.any_eq_true];exact⟨fun⟨x,hx,e⟩=>⟨x,h.mem_iff.1 hx,e⟩,fun⟨x,hx,e⟩=>⟨x,h.mem_iff.2 hx,e⟩⟩
 ·unfold cntR
  rw[(h.filter _).length_eq]
theorem one_tells: ∀ {rows:List (List Val)},(∀r∈rows,GoodR r)→rows.Pairwise (fun a b=>rowsF a b<0)→ ∀r,GoodR r→hasA (rows.map fun x=>(x,1)) r=hasR rows r∧lookA (rows.map fun x=>(x,1)) r=cntR rows r
 |[],_,_,r,_=>⟨rfl,rfl⟩
 |x::l,hg,hp,r,hr=>by
  have hx:=hg x (by simp);obtain⟨h1,h2⟩:=one_tells (rows:=l) (fun r hr=>hg r (by simp[hr])) (List.pairwise_cons.1 hp).2 r hr;rw[List.map_cons,has_good hx hr,look_good hx hr,h1,h2];unfold hasR cntR;rw[List.any_cons,List.filter_cons];by_cases e:x=r
  ·subst e
   have:l.filter (fun y=>decide (y=x))=[]:=by
    rw[List.filter_eq_nil_iff];intro y hy e;have:=(List.pairwise_cons.1 hp).1 y hy;rw[show y=x by simpa using e,rowsF_self hx]at this;omega
   simp[this]
  ·simp[e]
theorem viewR_rise {rows:List (List Val)}(hg: ∀r∈rows,GoodR r)(hl:rows.length≤4096)(hp:rows.Pairwise fun a b=>rowsF a b<0):viewR rows=rows.map fun x=>(x,1):=by
 rw[viewR_N hg hl];obtain⟨a1,a2⟩:=viewN_tells _ rows rfl hg hl;refine rises_ext a1.rises ⟨fun q hq=> ?_,?_⟩ fun r hr=> ?_
 ·obtain⟨x,hx,rfl⟩:=List.mem_map.1 hq
  exact hg x hx
 ·rw[List.pairwise_map];exact hp
 ·rw[(a2 r hr).1,(a2 r hr).2,(one_tells hg hp r hr).1,(one_tells hg hp r hr).2]
  exact⟨rfl,rfl⟩
abbrev PT:=List (List Val×AV)
def putP:PT→List Val→List Val×Int→PT
 |[],k,c=>[(k,[c])]
 |(x,l)::t,k,c=>if rowsF x k=0 then(x,l++[c])::t else if rowsF x k<0 then(x,l)::putP t k c else(k,[c])::(x,l)::t
def partsP (p:Pl) (A:AV):PT:=A.foldl (fun P c=>putP P (cellsG p c.1) c) []
def figsP (p:Pl) (A:AV):List Val:=p.aggs.map fun a=>figF a.1 (A.map fun c=>(c.1.getD a.2.toNat nullG,c.2))
def headRow (p:Pl) (q:List Val×AV):List Val:=q.1++figsP p q.2
def groupV (p:Pl) (A:AV):AV:=(partsP p A).map fun q=>(headRow p q,1)
structure PG (p:Pl) (A:AV) (P:PT):Prop where
 rise:P.Pairwise fun q r=>rowsF q.1 r.1<0
 good: ∀q∈P,GoodR q.1∧q.1.length=p.group.length
 mem: ∀q∈P,∀c∈q.2,c∈A
 few:P.length≤A.length
 ne: ∀q∈P,q.2≠[]
theorem putP_mem {P:PT}{k:List Val}{c:List Val×Int}{q:List Val×AV}(h:q∈putP P k c):q∈P∨(q.1=k∧q.2=[c])∨ ∃r∈P,q.1=r.1∧q.2=r.2++[c]:=by
 induction P with
 |nil=>rw[List.mem_singleton.1 h];exact .inr (.inl ⟨rfl,rfl⟩)
 |cons x t ih=>
  obtain⟨x,l⟩:=x;unfold putP at h;split at h
  ·rcases List.mem_cons.1 h with rfl|h
   ·exact .inr (.inr ⟨(x,l),by simp,rfl,rfl⟩)
   ·exact .inl (by simp[h])
  ·split at h
   ·rcases List.mem_cons.1 h with rfl|h
    ·exact .inl (by simp)
    ·rcases ih h with h|h|⟨r,hr,h⟩
     ·exact .inl (by simp[h])
     ·exact .inr (.inl h)
     ·exact .inr (.inr ⟨r,by simp[hr],h⟩)
   ·rcases List.mem_cons.1 h with rfl|h
    ·exact .inr (.inl ⟨rfl,rfl⟩)
    ·exact .inl h
theorem putP_heads {P:PT}{k:List Val}{c:List Val×Int}{q:List Val×AV}(h:q∈putP P k c):q.1=k∨ ∃r∈P,q.1=r.1:=by
 rcases putP_mem h with h|h|⟨r,hr,h,-⟩
 ·exact .inr ⟨q,h,rfl⟩
 ·exact .inl h.1
 ·exact .inr ⟨r,hr,h⟩
theorem putP_len (P:PT)(k:List Val)(c:List Val×Int):(putP P k c).length≤P.length+1:=by
 induction P with
 |nil=>simp[putP]
 |cons x t ih=>
  obtain⟨x,l⟩:=x;unfold putP;split
  ·simp
  ·split<;>simp<;>omega
theorem putP_rise {P:PT}{k:List Val}{c:List Val×Int}(hk:GoodR k)(hg: ∀q∈P,GoodR q.1)(h:P.Pairwise fun q r=>rowsF q.1 r.1<0):(putP P k c).Pairwise fun q r=>rowsF q.1 r.1<0:=by
 induction P with
 |nil=>exact List.pairwise_singleton _ _
 |cons x t ih=>
  obtain⟨x,l⟩:=x;obtain⟨h1,h2⟩:=List.pairwise_cons.1 h;have hx:GoodR x:=hg (x,l) (by simp);have ht: ∀q∈t,GoodR q.1:=fun q hq=>hg q (by simp[hq]);unfold putP;by_cases e:rowsF x k=0
  ·rw[if_pos e]
   exact List.pairwise_cons.2 ⟨h1,h2⟩
  ·rw[if_neg e]
   by_cases e2:rowsF x k<0
   ·rw[if_pos e2]
    refine List.pairwise_cons.2 ⟨fun q hq=> ?_,ih ht h2⟩;rcases putP_heads hq with h|⟨r,hr,h⟩
    ·show rowsF x q.1<0
     rw[h];exact e2
    ·show rowsF x q.1<0
     rw[h];exact h1 r hr
   ·rw[if_neg e2]
    have e3:rowsF k x<0:=by rw[rowsF_flip hx hk];omega
    refine List.pairwise_cons.2 ⟨fun q hq=> ?_,h⟩;rcases List.mem_cons.1 hq with rfl|hq
    ·exact e3
    ·exact rowsF_trans hk hx (ht q hq) e3 (h1 q hq)
theorem PG.start (p:Pl):PG p [] []:=⟨.nil,nofun,nofun,Nat.le_refl _,nofun⟩
theorem PG.step {p:Pl}{A:AV}{P:PT}{k:List Val}{c:List Val×Int}(h:PG p A P)(hk:GoodR k)(hl:k.length=p.group.length):PG p (A++[c]) (putP P k c):=by
 refine⟨putP_rise hk (fun q hq=>(h.good q hq).1) h.rise,fun q hq=> ?_,fun q hq d hd=> ?_,?_,fun q hq=> ?_⟩
 ·rcases putP_heads hq with e|⟨r,hr,e⟩
  ·rw[e];exact⟨hk,hl⟩
  ·rw[e];exact h.good r hr
 ·rcases putP_mem hq with hq|⟨-,e⟩|⟨r,hr,-,e⟩
  ·exact List.mem_append_left _ (h.mem q hq d hd)
  ·rw[e]at hd;exact List.mem_append_right _ hd
  ·rw[e]at hd
   rcases List.mem_append.1 hd with hd|hd
   ·exact List.mem_append_left _ (h.mem r hr d hd)
   ·exact List.mem_append_right _ hd
 ·rw[List.length_append]
  have:=h.few;have:=putP_len P k c;simp;omega
 ·rcases putP_mem hq with hq|⟨-,e⟩|⟨r,hr,-,e⟩
  ·exact h.ne q hq
  ·rw[e];simp
  ·rw[e];simp
theorem parts_all {p:Pl}: ∀ {A:AV},(∀c∈A,GoodR (cellsG p c.1))→PG p A (partsP p A):=by
 have key: ∀(B:AV) {A:AV} {P:PT},PG p A P→(∀c∈B,GoodR (cellsG p c.1))→PG p (A++B) (B.foldl (fun P c=>putP P (cellsG p c.1) c) P):=by
  intro B
  induction B with
  |nil=>intro A P h _;rw[List.append_nil];exact h
  |cons c B ih=>
   intro A P h hg;have:=ih (h.step (hg c (by simp)) (c:=c) (by unfold cellsG;exact List.length_map _)) fun d hd=>hg d (by simp[hd]);rw[List.append_assoc]at this;exact this
 intro A hg;have:=key A (PG.start p) hg;rwa[List.nil_append]at this
theorem rowsF_app: ∀ {a b x y:List Val},a.length=b.length→rowsF a b<0→rowsF (a++x) (b++y)<0
 |[],[],_,_,_,h=>by simp[rowsF]at h
 |[],_::_,_,_,hl,_=>by simp at hl
 |_::_,[],_,_,hl,_=>by simp at hl
 |u::a,v::b,x,y,hl,h=>by
  show(if cmpV u v≠0 then cmpV u v else rowsF (a++x) (b++y))<0;have h':(if cmpV u v≠0 then cmpV u v else rowsF a b)<0:=h;by_cases e:cmpV u v≠0
  ·rw[if_pos e]at h'⊢;exact h'
  ·rw[if_neg e]at h'⊢
   exact rowsF_app (by simpa using hl) h'
theorem heads_rise {p:Pl}{A:AV}{P:PT}(h:PG p A P):(P.map (headRow p)).Pairwise fun a b=>rowsF a b<0:=by
 rw[List.pairwise_map];refine h.rise.imp_of_mem fun{q r} hq hr hlt=>rowsF_app ?_ hlt;rw[(h.good q hq).2,(h.good r hr).2]
theorem stepF_good {fn:Int}{o:Val}{q:Val×Int}(ho:GoodR [o])(hq:GoodR [q.1]):GoodR [stepF fn o q]:=by
 unfold stepF;split
 ·exact ho
 ·split
  ·exact int_good (wrapI_range _)
  ·split
   ·exact hq
   ·exact ho
theorem figF_good {fn:Int}{L:List (Val×Int)}(h: ∀q∈L,GoodR [q.1]):GoodR [figF fn L]:=by
 unfold figF;split
 ·refine int_good ?_
  have: ∀(L:List (Val×Int)) (s:Int),(-9223372036854775808≤s∧s≤9223372036854775807)→ -9223372036854775808≤L.foldl cntF s∧L.foldl cntF s≤9223372036854775807:=by
   intro L
   induction L with
   |nil=>intro s h;exact h
   |cons q L ih=>intro s _;exact ih _ (wrapI_range _)
  exact this L 0 (by omega)
 ·have: ∀(L:List (Val×Int)) (o:Val),GoodR [o]→(∀q∈L,GoodR [q.1])→GoodR [L.foldl (stepF fn) o]:=by
   intro L
   induction L with
   |nil=>intro o h _;exact h
   |cons q L ih=>intro o ho h;exact ih _ (stepF_good ho (h q (by simp))) fun r hr=>h r (by simp[hr])
  exact this L nullG null_good h
theorem getD_good {r:List Val}(h:GoodR r)(i:Nat):GoodR [r.getD i nullG]:=by
 by_cases hi:i<r.length
 ·have:r.getD i nullG=r[i]:=by simp[List.getD,hi]
  rw[this];exact⟨fun x hx=>by rw[List.mem_singleton.1 hx];exact h.good _ (List.getElem_mem hi),by simp⟩
 ·have:r.getD i nullG=nullG:=by simp[List.getD,hi]
  rw[this];exact null_good
theorem head_good {p:Pl}{A:AV}{P:PT}(hp:checkP p=0)(hg:p.grouped=true)(h:PG p A P)(hA: ∀c∈A,GoodR c.1): ∀r∈P.map (headRow p),GoodR r:=by
 intro r hr;obtain⟨q,hq,rfl⟩:=List.mem_map.1 hr;obtain⟨g1,g2⟩:=h.good q hq;have h8:=(group_few hp hg).1;refine⟨fun x hx=> ?_,?_⟩
 ·rcases List.mem_append.1 hx with hx|hx
  ·exact g1.good x hx
  ·obtain⟨a,-,rfl⟩:=List.mem_map.1 hx
   refine(figF_good fun z hz=> ?_).good _ (List.mem_singleton.2 rfl);obtain⟨c,hc,rfl⟩:=List.mem_map.1 hz;exact getD_good (hA c (h.mem q hq c hc)) _
 ·show(q.1++figsP p q.2).length≤8
  unfold figsP;rw[List.length_append,List.length_map,g2];exact h8
theorem heads_view {p:Pl}{A:AV}(hp:checkP p=0)(hg:p.grouped=true)(hA: ∀c∈A,GoodR c.1)(hc: ∀c∈A,GoodR (cellsG p c.1))(hl:A.length≤4096){rows:List (List Val)}(h:rows.Perm ((partsP p A).map (headRow p))):(∀r∈rows,GoodR r)∧rows.length≤4096∧viewR rows=groupV p A:=by
 have hP:=parts_all hc;have g:=head_good hp hg hP hA;have hlen:((partsP p A).map (headRow p)).length≤4096:=by rw[List.length_map];have:=hP.few;omega
 have hg': ∀r∈rows,GoodR r:=fun r hr=>g r (h.mem_iff.1 hr);have hl':rows.length≤4096:=by rw[h.length_eq];exact hlen
 refine⟨hg',hl',?_⟩;rw[viewR_perm hg' hl' h,viewR_rise g hlen (heads_rise hP)];unfold groupV;rw[List.map_map];rfl
end Go.Proofs.YtjhbeecmdgglgaaGreatDoor
