/-Batches: what batchBegun comes to. Plain law of changes: what is told of a difference makes the one view of the other; changes undone make the view ag -/
import Derived.Test.YtjhbeecmdgglgaaGreatDoorGrpW40
import Derived.Test.YtjhbeecmdgglgaaGreatDoorGrpW41
import Derived.Test.YtjhbeecmdgglgaaGreatDoorGrpW34
import Derived.Test.YtjhbeecmdgglgaaGreatDoorGrpW13
import Derived.Test.YtjhbeecmdgglgaaGreatDoorGrpW28
import Derived.Test.YtjhbeecmdgglgaaGreatDoorGrpW37
import Derived.Test.YtjhbeecmdgglgaaGreatDoorGrpW24
import Derived.Test.YtjhbeecmdgglgaaGreatDoorGrpW39
import Derived.Test.YtjhbeecmdgglgaaGreatDoorGrpW23
import Derived.SizedLaws
import Derived.Deep.Fields
import Derived.Test.YtjhbeecmdgglgaaGreatDoorGrpW12
set_option linter.unusedSimpArgs false
set_option linter.unusedVariables false
namespace Go.Proofs.YtjhbeecmdgglgaaGreatDoor
def begL:List Cg:=[(1,[numV 7,numV 1])]
def begR:List Cg:=[(2,[numV 7,numV 2]),(9,[numV 7,numV 3])]
def begV:AV:=[([nullV,nullV,numV 7,numV 3],1),([numV 7,numV 1,numV 7,numV 2],1)]
def begW:AV:=[([nullV,numV 1,nullV],1),([numV 7,numV 1,numV 1],1)]
theorem beg_row (vl vr vk vq:Value)(a b side:Int)(hs:side=1∨side=2):rowE (simpleP vl vr vk vq) side [numV a,numV b]=0:=by
 rcases hs with rfl|rfl
 all_goals
  unfold rowE;rw[if_pos (by decide)];simp[simpleP,sideT,numV,checkV,firstNZ,allB,fitOne]
theorem beg_none (vl vr vk vq:Value):batchE (simpleP vl vr vk vq) begL begR=0:=by
 refine batch_zero.2 ⟨simple_check _ _ _ _,by decide,?_,?_,?_,?_⟩
 ·intro x hx
  simp only[begL,List.mem_singleton]at hx;subst hx;decide
 ·intro x hx
  simp only[begR,List.mem_cons,List.not_mem_nil,or_false]at hx;rcases hx with rfl|rfl<;>decide
 ·intro x hx
  simp only[begL,List.mem_singleton]at hx;subst hx;exact beg_row _ _ _ _ 7 1 1 (.inl rfl)
 ·intro x hx
  simp only[begR,List.mem_cons,List.not_mem_nil,or_false]at hx;rcases hx with rfl|rfl
  ·exact beg_row _ _ _ _ 7 2 2 (.inr rfl)
  ·exact beg_row _ _ _ _ 7 3 2 (.inr rfl)
theorem beg_join (vl vr vk vq:Value):viewR (joinL (simpleP vl vr vk vq) begL begR)=begV:=by rfl
theorem beg_group (vl vr vk vq vg va:Value):groupV (countedP vl vr vk vq vg va) begV=begW:=by rfl
end Go.Proofs.YtjhbeecmdgglgaaGreatDoor
namespace Go.Proofs.YtjhbeecmdgglgaaGreatDoor
open Go.RowKit Go.Maps
end Go.Proofs.YtjhbeecmdgglgaaGreatDoor
namespace Go.Proofs.YtjhbeecmdgglgaaGreatDoor
open Go.RowKit Go.Maps
end Go.Proofs.YtjhbeecmdgglgaaGreatDoor
namespace Go.Proofs.YtjhbeecmdgglgaaGreatDoor
open Go.RowKit Go.Maps
theorem goodR_err {r:List Val}(h:GoodR r):keyErr r=0:=by
 unfold keyErr;rw[if_neg (by have:=h.few;omega)];refine firstNZ_none fun x hx=> ?_;obtain⟨v,hv,rfl⟩:=List.mem_map.1 hx;exact(h.good v hv).1
theorem GoodR.fine {r:List Val}(h:GoodR r):Fine r:=
 ⟨fun x hx=>by have:=good_size (h.good x hx).1;omega,fun x hx=>(h.good x hx).2⟩
theorem fineV_of {l:List Cnt}(h:GoodA (av l)):FineV l:=⟨fun c hc=>(h.rises.good (c.r,c.n) (List.mem_map.2 ⟨c,hc,rfl⟩)).fine,fun c hc=>by
 have:=h.nums (c.r,c.n) (List.mem_map.2 ⟨c,hc,rfl⟩);simp only at this;omega⟩
theorem chk_of {l:List Cnt}(h:GoodA (av l)):chkV l=0:=by
 have hlen:(av l).length=l.length:=by unfold av;rw[List.length_map]
 have hf:=h.few;refine chk_good (by omega) fun j hj=> ?_;rw[List.take_of_length_le (by rw[List.length_range];exact Nat.le_refl _),List.mem_range]at hj;have hx:l[j]?=some l[j]:=List.getElem?_eq_getElem hj;have hxm:(l[j].r,l[j].n)∈av l:=List.mem_map.2 ⟨l[j],List.getElem_mem hj,rfl⟩;have hn:=h.nums _ hxm;simp only at hn
 have hok:okC l[j]=true:=by
  unfold okC;rw[goodR_err (h.rises.good _ hxm),btw_yes hn.1 hn.2];rfl
 cases j with
 |zero=>rw[okAt_zero hx,hok]
 |succ k=>
  have hy:l[k]?=some l[k]:=List.getElem?_eq_getElem (by omega);rw[okAt_succ hx hy,hok,Bool.true_and];refine decide_eq_true ?_;have:=List.pairwise_iff_getElem.1 h.rises.rise k (k+1) (by omega) (by omega) (by omega);simpa[av]using this
structure InForm (m:List Chn):Prop where
 few:m.length≤4096
 good: ∀c∈m,GoodR c.r∧1≤c.k∧c.k≤4
 next: ∀i,kAt m i=3→kAt m (i+1)=4
 prev: ∀i,kAt m i=4→ ∃j,i=j+1∧kAt m j=3
end Go.Proofs.YtjhbeecmdgglgaaGreatDoor
namespace Go.Proofs.YtjhbeecmdgglgaaGreatDoor
open Go.RowKit
theorem numV_good (n:Int)(h: -9223372036854775808≤n∧n≤9223372036854775807):checkV (numV n)=0:=by unfold checkV numV;simp[ByteArray.toList_eq]
theorem nullV_good:checkV nullV=0:=by unfold checkV nullV;simp[ByteArray.toList_eq]
theorem begV_good:GoodA begV:=by
 have hn: ∀n,-9223372036854775808≤n∧n≤9223372036854775807→checkV (numV n)=0:=numV_good;refine⟨by decide,⟨fun q hq=> ?_,?_⟩,fun q hq=> ?_⟩
 ·simp only[begV,List.mem_cons,List.not_mem_nil,or_false]at hq
  rcases hq with rfl|rfl
  ·refine⟨fun x hx=> ?_,by decide⟩
   simp only[List.mem_cons,List.not_mem_nil,or_false]at hx;rcases hx with rfl|rfl|rfl|rfl
   ·exact⟨nullV_good,by decide⟩
   ·exact⟨nullV_good,by decide⟩
   ·exact⟨hn 7 (by omega),by decide⟩
   ·exact⟨hn 3 (by omega),by decide⟩
  ·refine⟨fun x hx=> ?_,by decide⟩
   simp only[List.mem_cons,List.not_mem_nil,or_false]at hx;rcases hx with rfl|rfl|rfl|rfl
   ·exact⟨hn 7 (by omega),by decide⟩
   ·exact⟨hn 1 (by omega),by decide⟩
   ·exact⟨hn 7 (by omega),by decide⟩
   ·exact⟨hn 2 (by omega),by decide⟩
 ·exact List.pairwise_cons.2 ⟨fun q hq=>by rw[List.mem_singleton.1 hq];decide,List.pairwise_singleton _ _⟩
 ·simp only[begV,List.mem_cons,List.not_mem_nil,or_false]at hq
  rcases hq with rfl|rfl<;>decide
theorem beg_gerr (vl vr vk vq vg va:Value){l:List Cnt}(h:av l=begV):groupE (countedP vl vr vk vq vg va) l=0:=by
 have hg:GoodA (av l):=by rw[h];exact begV_good
 have hr:rsV l=begV.map (·.1):=by rw[←h];unfold rsV av;rw[List.map_map];rfl
 unfold groupE;rw[if_neg (fun e=>e (counted_check _ _ _ _ _ _)),if_neg (by simp[countedP]),if_neg (fun e=>e (chk_of hg)),hr];rfl
def bgL (v:Value):List Chn:=[⟨v,[numV 7,numV 1],1⟩]
def bgR (u v:Value):List Chn:=[⟨u,[numV 7,numV 2],2⟩,⟨v,[numV 7,numV 3],9⟩]
theorem bg_fine (a b:Int)(ha: -9223372036854775808≤a∧a≤9223372036854775807)(hb: -9223372036854775808≤b∧b≤9223372036854775807):Fine [numV a,numV b]:=nums_fine a b ha hb
set_option maxHeartbeats 8000000 in
set_option maxRecDepth 10000 in
theorem batchBegun_any (w:World)(hm:Mx w):Calls Tryz.prog 12 #[] w fun e w'=>e= .returned (.bool true)∧Below w.heap.size w w':=by
 have HM:=Lib.hid hm;clear hm;go_enter Tryz.func12,Tryz.ntmps12
 go_wp2_with fail
 refine(simple_any _).mono ?_;rintro e w1 ⟨pl,pr,pk,pq,rfl,hok,-,-,-,-,hb1⟩;have HOK:=Lib.hid hok;have B1:=hb1;clear hok hb1
 go_wp2_with fail
 refine(lawRow_any 7 1 _).mono ?_;rintro e w2 ⟨v2,rfl,hs2,hb2⟩;have B2:=below_trans B1 hb2;have HOK2:=Lib.hid (HOK.out.below hb2);obtain⟨A2,c2,rfl,-⟩:=id hs2;have HS2:=Lib.hid (hs2.below (below_alloc w2 (.cells #[.int .i64 1,.slice A2 2 c2] 53)));have HL2:Hid (Sl (w2.alloc (.cells #[.int .i64 1,.slice A2 2 c2] 53)) (.slice (some ⟨w2.heap.size,0,none⟩) 1 1) 1 (chnCells (bgL (.slice A2 2 c2)))):=Lib.hid (Sl.block (Blk.new w2 53 #[.int .i64 1,.slice A2 2 c2]) 1 1 (Nat.le_refl _) (by decide));have HOK3:=Lib.hid (HOK2.out.below (below_alloc w2 (.cells #[.int .i64 1,.slice A2 2 c2] 53)));have B3:=B2.alloc B2.size (.cells #[.int .i64 1,.slice A2 2 c2] 53);clear hs2 hb2 B1 B2 HOK
 go_wp2_with fail
 refine(lawRow_any 7 2 _).mono ?_;rintro e w4 ⟨v4,rfl,hs4,hb4⟩;have B4:=below_trans B3 hb4;obtain⟨A4,c4,rfl,-⟩:=id hs4;have HS4:=Lib.hid hs4;have HB4:=Lib.hid hb4;clear hs4 hb4 B3
 go_wp2_with fail
 refine(lawRow_any 7 3 _).mono ?_;rintro e w5 ⟨v5,rfl,hs5,hb5⟩;have B5:=below_trans B4 hb5;obtain⟨A5,c5,rfl,-⟩:=id hs5;have hb45:=HB4.out.trans (hb5.mono HB4.out.size);have hb5a:=hb45.alloc hb45.size (.cells #[.int .i64 2,.slice A4 2 c4,.int .i64 9,.slice A5 2 c5] 53);have HR5:Hid (Sl (w5.alloc (.cells #[.int .i64 2,.slice A4 2 c4,.int .i64 9,.slice A5 2 c5] 53)) (.slice (some ⟨w5.heap.size,0,none⟩) 2 2) 2 (chnCells (bgR (.slice A4 2 c4) (.slice A5 2 c5)))):=Lib.hid (Sl.block (Blk.new w5 53 #[.int .i64 2,.slice A4 2 c4,.int .i64 9,.slice A5 2 c5]) 2 2 (Nat.le_refl _) (by decide));have B6:=B5.alloc B5.size (.cells #[.int .i64 2,.slice A4 2 c4,.int .i64 9,.slice A5 2 c5] 53)
 have HLC:Hid (Chs (w5.alloc (.cells #[.int .i64 2,.slice A4 2 c4,.int .i64 9,.slice A5 2 c5] 53)) (.slice (some ⟨w2.heap.size,0,none⟩) 1 1) (bgL (.slice A2 2 c2))):=Lib.hid ⟨HL2.out.below hb5a,fun z hz=>by
  simp only[bgL,List.mem_singleton]at hz;subst hz;exact HS2.out.below hb5a⟩
 have HRC:Hid (Chs (w5.alloc (.cells #[.int .i64 2,.slice A4 2 c4,.int .i64 9,.slice A5 2 c5] 53)) (.slice (some ⟨w5.heap.size,0,none⟩) 2 2) (bgR (.slice A4 2 c4) (.slice A5 2 c5))):=Lib.hid ⟨HR5.out,fun z hz=>by
  simp only[bgR,List.mem_cons,List.not_mem_nil,or_false]at hz;rcases hz with rfl|rfl
  ·exact(HS4.out.below hb5).below (below_alloc _ _)
  ·exact hs5.below (below_alloc _ _)⟩
 have HJ:=Lib.hid (bjoin_any (simpleP pl pr pk pq) _ _ _ _ _ (HOK3.out.below hb5a) (simple_fit pl pr pk pq) HLC.out HRC.out (fun z hz=>by
  simp only[bgL,List.mem_singleton]at hz;subst hz;exact bg_fine 7 1 (by omega) (by omega)) (fun z hz=>by
  simp only[bgR,List.mem_cons,List.not_mem_nil,or_false]at hz;rcases hz with rfl|rfl
  ·exact bg_fine 7 2 (by omega) (by omega)
  ·exact bg_fine 7 3 (by omega) (by omega)) (HM.out.below B6))
 rw[show ac (bgL (.slice A2 2 c2))=begL from rfl,show ac (bgR (.slice A4 2 c4) (.slice A5 2 c5))=begR from rfl,beg_none,beg_join,if_pos rfl]at HJ;simp only[simpleP]at HJ;clear hs5 hb5 hb45 hb5a B4 B5 HS4 HB4 HR5 HL2 HS2 HOK2 HOK3 HLC HRC
 go_wp2_with fail
 refine Calls.mono (by with_reducible exact HJ.out) ?_;rintro e w7 ⟨v7,l7,rfl,hV7,ha7,hb7⟩;have B7:=below_trans B6 hb7;have HV7:=Lib.hid hV7;have HA7:=Lib.hid ha7;have HN7:Hid (l7.length=2):=Lib.hid (by have:=congrArg List.length ha7;unfold av at this;rw[List.length_map]at this;exact this);obtain⟨A7,c7,rfl,-⟩:=id hV7.sl;rw[HN7.out]at HV7⊢;clear hV7 ha7 hb7 B6 HJ
 go_wp2_with fail
 refine(counted_any _).mono ?_;rintro e w8 ⟨ul,ur,uk,uq,ug,ua,rfl,hok,hb8⟩;have B8:=below_trans B7 hb8;have HGR:=Lib.hid (bgroup_any (countedP ul ur uk uq ug ua) _ l7 w8 hok (counted_fit ul ur uk uq ug ua) (HV7.out.below hb8) (fineV_of (by rw[HA7.out];exact begV_good)) (HM.out.below B8));rw[beg_gerr ul ur uk uq ug ua HA7.out,if_pos rfl,HA7.out,beg_group]at HGR;simp only[countedP]at HGR;clear hok hb8 B7
 go_wp2_with fail
 refine Calls.mono (by with_reducible exact HGR.out) ?_;rintro e w9 ⟨v9,l9,rfl,hV9,ha9,hb9⟩;have B9:=below_trans B8 hb9;have HV9:=Lib.hid hV9;have HA9:=Lib.hid ha9;obtain⟨A9,c9,rfl,-⟩:=id hV9.sl;clear hV9 ha9 hb9 B8 HGR
 go_wp2_with fail
 refine(num_any 1 _).mono ?_;rintro e w10 ⟨rfl,hb10⟩;have B10:=(below_trans B9 hb10).alloc (below_trans B9 hb10).size (.cells #[.int .i64 0,.int .i64 0,.string ⟨#[]⟩,.int .i64 2,.int .i64 1,.string ⟨#[]⟩,.int .i64 0,.int .i64 0,.string ⟨#[]⟩] 68);have HV10:=Lib.hid ((HV9.out.below hb10).below (below_alloc w10 (.cells #[.int .i64 0,.int .i64 0,.string ⟨#[]⟩,.int .i64 2,.int .i64 1,.string ⟨#[]⟩,.int .i64 0,.int .i64 0,.string ⟨#[]⟩] 68)));have HX10:=Lib.hid (Sl.block (Blk.new w10 68 #[.int .i64 0,.int .i64 0,.string ⟨#[]⟩,.int .i64 2,.int .i64 1,.string ⟨#[]⟩,.int .i64 0,.int .i64 0,.string ⟨#[]⟩]) 3 3 (Nat.le_refl _) (by decide));clear hb10 B9
 go_wp2_with fail
 refine(num_any 7 _).mono ?_;rintro e w11 ⟨rfl,hb11⟩;have B11:=below_trans B10 hb11;have HV11:=Lib.hid (HV10.out.below hb11);have HX11:=Lib.hid (HX10.out.below hb11);clear hb11 B10
 go_wp2_with fail
 refine(num_any 1 _).mono ?_;rintro e w12 ⟨rfl,hb12⟩;have B12:=below_trans B11 hb12;have HV12:=Lib.hid (HV11.out.below hb12);have HX12:=Lib.hid (HX11.out.below hb12);clear hb12 B11
 go_wp2_with fail
 refine(num_any 1 _).mono ?_;rintro e w13 ⟨rfl,hb13⟩;have B13:=below_trans B12 hb13;have HX13:=Lib.hid (((HX12.out.below hb13).below (below_alloc w13 (.cells #[.int .i64 2,.int .i64 7,.string ⟨#[]⟩,.int .i64 2,.int .i64 1,.string ⟨#[]⟩,.int .i64 2,.int .i64 1,.string ⟨#[]⟩] 68))).below (below_alloc _ (.cells #[.slice (some ⟨w10.heap.size,0,none⟩) 3 3,.int .i64 1,.slice (some ⟨w13.heap.size,0,none⟩) 3 3,.int .i64 1] 45)));have HV13:=Lib.hid (((HV12.out.below hb13).below (below_alloc w13 (.cells #[.int .i64 2,.int .i64 7,.string ⟨#[]⟩,.int .i64 2,.int .i64 1,.string ⟨#[]⟩,.int .i64 2,.int .i64 1,.string ⟨#[]⟩] 68))).below (below_alloc _ (.cells #[.slice (some ⟨w10.heap.size,0,none⟩) 3 3,.int .i64 1,.slice (some ⟨w13.heap.size,0,none⟩) 3 3,.int .i64 1] 45)));have HY13:=Lib.hid ((Sl.block (Blk.new w13 68 #[.int .i64 2,.int .i64 7,.string ⟨#[]⟩,.int .i64 2,.int .i64 1,.string ⟨#[]⟩,.int .i64 2,.int .i64 1,.string ⟨#[]⟩]) 3 3 (Nat.le_refl _) (by decide)).below (below_alloc _ (.cells #[.slice (some ⟨w10.heap.size,0,none⟩) 3 3,.int .i64 1,.slice (some ⟨w13.heap.size,0,none⟩) 3 3,.int .i64 1] 45)));have HW13:=Lib.hid (Sl.block (Blk.new (w13.alloc (.cells #[.int .i64 2,.int .i64 7,.string ⟨#[]⟩,.int .i64 2,.int .i64 1,.string ⟨#[]⟩,.int .i64 2,.int .i64 1,.string ⟨#[]⟩] 68)) 45 #[.slice (some ⟨w10.heap.size,0,none⟩) 3 3,.int .i64 1,.slice (some ⟨w13.heap.size,0,none⟩) 3 3,.int .i64 1]) 2 2 (Nat.le_refl _) (by decide));have B14:=B13.alloc B13.size (.cells #[.int .i64 2,.int .i64 7,.string ⟨#[]⟩,.int .i64 2,.int .i64 1,.string ⟨#[]⟩,.int .i64 2,.int .i64 1,.string ⟨#[]⟩] 68);have B15:=B14.alloc B14.size (.cells #[.slice (some ⟨w10.heap.size,0,none⟩) 3 3,.int .i64 1,.slice (some ⟨w13.heap.size,0,none⟩) 3 3,.int .i64 1] 45);obtain⟨wz,hwz⟩: ∃V,(w13.alloc (.cells #[.int .i64 2,.int .i64 7,.string ⟨#[]⟩,.int .i64 2,.int .i64 1,.string ⟨#[]⟩,.int .i64 2,.int .i64 1,.string ⟨#[]⟩] 68)).alloc (.cells #[.slice (some ⟨w10.heap.size,0,none⟩) 3 3,.int .i64 1,.slice (some ⟨w13.heap.size,0,none⟩) 3 3,.int .i64 1] 45)=V:=⟨_,rfl⟩;rw[hwz]at HX13 HV13 HY13 HW13 B15
 have HVW:Hid (View wz (.slice (some ⟨w13.heap.size+1,0,none⟩) 2 2) [⟨.slice (some ⟨w10.heap.size,0,none⟩) 3 3,[nullV,numV 1,nullV],1⟩,⟨.slice (some ⟨w13.heap.size,0,none⟩) 3 3,[numV 7,numV 1,numV 1],1⟩]):=Lib.hid ⟨by have h:=HW13.out;rw[World.size_alloc]at h;exact h,fun z hz=>by
  simp only[List.mem_cons,List.not_mem_nil,or_false]at hz;rcases hz with rfl|rfl
  ·exact HX13.out
  ·exact HY13.out⟩
 have HSV:=Lib.hid (sameViews_any _ _ _ _ wz HV13.out HVW.out (by rw[HA9.out];rfl));clear hb13 B12 B13 B14 HX12 HV12
 go_upto_region 4 with fail
 clear hwz
 go_wp2_with fail
 refine Calls.mono (by with_reducible exact HSV.out) ?_;rintro e w16 ⟨rfl,hb16⟩;have B16:=Lib.hid (below_trans B15 hb16);go_wp2;go_ret;exact⟨rfl,B16.out⟩
end Go.Proofs.YtjhbeecmdgglgaaGreatDoor
namespace Go.Proofs.YtjhbeecmdgglgaaGreatDoor
open Go.RowKit
set_option maxHeartbeats 8000000 in
set_option maxRecDepth 10000 in
theorem batchJoins_walk (p:Pl)(vL vR:Value)(L R:List Chn)(w:World)(h:p.ok w)(hfit:p.fit)(hL:Chs w vL L)(hcL:FineC L)(hR:Chs w vR R)(hcR:FineC R)(hm:Mx w):
 Calls Tryz.prog 3 #[.agg #[.int .i64 p.kind,.int .i64 p.mode,.int .i64 p.low,.int .i64 p.high,.int .i64 p.size,.int .i64 p.limit,p.vl,p.vr,p.vk,p.vq,.bool p.grouped,p.vg,p.va],vL,vR] w fun e w'=>e= .returned (.bool true)∧Below w.heap.size w w':=by
 have hfl:=hcL.rows;have hfr:=hcR.rows;have HM:=Lib.hid hm;have HJ:=Lib.hid (fun(W:World) (hb:Below w.heap.size w W)=>bjoin_any p vL vR L R W (h.below hb) hfit (hL.below hb) (hR.below hb) hfl hfr (hm.below hb));have HE:=Lib.hid (fun(W:World) (hb:Below w.heap.size w W)=>batchError_any p vL vR L R W (h.below hb) (hL.below hb) (hR.below hb) hfl hfr);have HA:=Lib.hid (fun(W:World) (hb:Below w.heap.size w W) (hz:batchE p (ac L) (ac R)=0)=>joinAll_any p vL vR L R W (h.below hb) (batch_zero.1 hz) (hL.below hb) (hR.below hb) hfl hfr);obtain⟨E,hE⟩: ∃y,batchE p (ac L) (ac R)=y:=⟨_,rfl⟩;rw[hE]at HJ HE HA;clear hE;obtain⟨A0,c0,h0,n0,m0,-⟩:=id h.l;obtain⟨A1,c1,h1,n1,m1,-⟩:=id h.r;obtain⟨A2,c2,h2,n2,m2,-⟩:=id h.k;obtain⟨A3,c3,h3,n3,m3,-⟩:=id h.q;obtain⟨A4,c4,h4,n4,m4,-⟩:=id h.g;obtain⟨A5,c5,h5,n5,m5,-⟩:=id h.a;obtain⟨AL,cL,rfl,-⟩:=id hL.sl;obtain⟨AR,cR,rfl,-⟩:=id hR.sl;rw[h0,h1,h2,h3,h4,h5]at HJ HE HA⊢;have HB:=Lib.hid (below_alloc w (.cells #[.int .i64 p.kind,.int .i64 p.mode,.int .i64 p.low,.int .i64 p.high,.int .i64 p.size,.int .i64 p.limit,.slice A0 p.left.length c0,.slice A1 p.right.length c1,.slice A2 p.lkeys.length c2,.slice A3 p.rkeys.length c3,.bool p.grouped,.slice A4 p.group.length c4,.slice A5 p.aggs.length c5] 25));have HK0:=Lib.hid (Blk.new w 25 #[.int .i64 p.kind,.int .i64 p.mode,.int .i64 p.low,.int .i64 p.high,.int .i64 p.size,.int .i64 p.limit,.slice A0 p.left.length c0,.slice A1 p.right.length c1,.slice A2 p.lkeys.length c2,.slice A3 p.rkeys.length c3,.bool p.grouped,.slice A4 p.group.length c4,.slice A5 p.aggs.length c5]);obtain⟨W1,hW1⟩: ∃V,w.alloc (.cells #[.int .i64 p.kind,.int .i64 p.mode,.int .i64 p.low,.int .i64 p.high,.int .i64 p.size,.int .i64 p.limit,.slice A0 p.left.length c0,.slice A1 p.right.length c1,.slice A2 p.lkeys.length c2,.slice A3 p.rkeys.length c3,.bool p.grouped,.slice A4 p.group.length c4,.slice A5 p.aggs.length c5] 25)=V:=⟨_,rfl⟩;rw[hW1]at HB HK0;have hb1:=HB.out;obtain⟨z0,z1,z2,z3,z4,z5,z6,z7,z8,z9,z10,z11,z12⟩:=pl_cells HK0.out;clear h h0 h1 h2 h3 h4 h5 n0 n1 n2 n3 n4 n5 m0 m1 m2 m3 m4 m5 hL hR hcL hcR hfl hfr hfit hm;go_enter Tryz.func3,Tryz.ntmps3
 go_wp2_with fail
 refine Calls.mono (by with_reducible exact HJ.out _ hb1) ?_;rintro e w2 ⟨v2,l2,rfl,hV2,ha2,hb2⟩;have HV2:=Lib.hid hV2;have HA2:=Lib.hid ha2;obtain⟨Av,cv,rfl,-⟩:=id hV2.sl;have hy2:=hb2;have hbw2:=below_trans hb1 hb2;obtain⟨z0,z1,z2,z3,z4,z5,z6,z7,z8,z9,z10,z11,z12⟩:=pl_cells (HK0.out.below hy2);clear hV2 ha2 hb2 hW1
 go_wp2_with fail
 refine Calls.mono (by with_reducible exact HE.out _ hbw2) ?_;rintro e w3 ⟨rfl,hb3⟩;have hy3:=hy2.trans (hb3.mono hy2.size);have hbw3:=below_trans hb1 hy3;have HV3:=Lib.hid (HV2.out.below hb3);have HBG:=Lib.hid (batchBegun_any w3 (HM.out.below hbw3));clear hb3 z0 z1 z2 z3 z4 z5 z6 z7 z8 z9 z10 z11 z12;by_cases hz:E=0
 ·subst hz
  have HAF:=Lib.hid (HA.out);have HAV:Hid (av l2=viewR (joinL p (ac L) (ac R))):=Lib.hid (by have:=HA2.out;rwa[if_pos rfl]at this);clear HA2
  go_wp2_with fail
  refine Calls.mono (by with_reducible exact HBG.out) ?_;rintro e w4 ⟨rfl,hb4⟩;have hy4:=hy3.trans (hb4.mono hy3.size);have hbw4:=below_trans hb1 hy4;have HV4:=Lib.hid (HV3.out.below hb4);have HJA:=Lib.hid (HAF.out w4 hbw4 trivial);obtain⟨z0,z1,z2,z3,z4,z5,z6,z7,z8,z9,z10,z11,z12⟩:=pl_cells (HK0.out.below hy4);clear hb4
  go_wp2_with fail
  refine Calls.mono (by with_reducible exact HJA.out) ?_;rintro e w5 ⟨v5,l5,rfl,hV5,ha5,hb5⟩;have hbw5:=below_trans hbw4 hb5;have HSV:=Lib.hid (sameViews_any _ v5 l2 l5 w5 (HV4.out.below hb5) hV5 (by rw[HAV.out,ha5]));clear hV5 ha5 hb5 z0 z1 z2 z3 z4 z5 z6 z7 z8 z9 z10 z11 z12
  go_wp2_with fail
  refine Calls.mono (by with_reducible exact HSV.out) ?_;rintro e w6 ⟨rfl,hb6⟩;have HF:=Lib.hid (below_trans hbw5 hb6);go_wp2;go_ret;exact⟨rfl,HF.out⟩
 ·have hq:=bneT hz
  have hee:(E==E)=true:=beq_self_eq_true _;have HL0:Hid (l2.length=0):=Lib.hid (by have:=HA2.out;rw[if_neg hz]at this;have:=congrArg List.length this;unfold av at this;rwa[List.length_map]at this);clear hz HA2;rw[HL0.out]
  go_wp2_with fail
  refine Calls.mono (by with_reducible exact HBG.out) ?_;rintro e w4 ⟨rfl,hb4⟩;have HF:=Lib.hid (below_trans hbw3 hb4);go_wp2;go_ret;exact⟨rfl,HF.out⟩
end Go.Proofs.YtjhbeecmdgglgaaGreatDoor
namespace Go.Proofs.YtjhbeecmdgglgaaGreatDoor
open Go.RowKit Go.Maps
end Go.Proofs.YtjhbeecmdgglgaaGreatDoor
namespace Go.Proofs.YtjhbeecmdgglgaaGreatDoor
open Go.RowKit Go.Maps
end Go.Proofs.YtjhbeecmdgglgaaGreatDoor
namespace Go.Proofs.YtjhbeecmdgglgaaGreatDoor
open Go.RowKit Go.Maps
end Go.Proofs.YtjhbeecmdgglgaaGreatDoor
namespace Go.Proofs.YtjhbeecmdgglgaaGreatDoor
open Go.ChangeShapes Go.WideShapes Go.RowKit Go.Deep
section
variable {H:Type} {enc:TypeId×Value→H} {P:Program} {w:World} {base:Nat} {spare:Nat→Bool} {held:Bool}
end
section
variable {H:Type} {enc:TypeId×Value→H} {w:World} {base:Nat} {spare:Nat→Bool} {held:Bool}
end
section
variable {H:Type} {enc:TypeId×Value→H} {P:Program} {w:World} {base:Nat} {spare:Nat→Bool} {held:Bool}
theorem flat_ints (l:List Int):l.flatMap (fun n=>[Value.int .i64 n])=intCells l:=by
 induction l with
 |nil=>rfl
 |cons a l ih=>rw[List.flatMap_cons,ih];rfl
end
section
variable {H:Type} {enc:TypeId×Value→H} {w:World} {base:Nat} {spare:Nat→Bool} {held:Bool}
set_option maxRecDepth 100000 in
theorem ints_trod {fuel:Nat}{cs:List Value}{x:DataW H×List MemPlace}(h:DataW.trod enc Tryz.prog w base spare held fuel 22 cs=some x): ∃(v:Value) (l:List Int),cs=[v]∧Sl w v l.length (intCells l)∧I64 l:=by
 obtain⟨v,l,e,hs,hq⟩:=open_flatQ (f:=fun n:Int=>[Value.int .i64 n]) (Q:=fun n=> -9223372036854775808≤n∧n≤9223372036854775807) (size:=1) (fun _=>rfl) (by omega) Tryz.underlying22 (by kernel_rfl)
  (fun fuel cs x h=>by obtain⟨s,e,-,q⟩:=DataW.trod_int Tryz.underlying3 h;exact⟨s,e,wf_i64 q⟩) h
 rw[flat_ints]at hs;exact⟨v,l,e,hs,hq⟩
set_option maxRecDepth 100000 in
theorem agg_trod (fuel:Nat)(cs:List Value)(x:DataW H×List MemPlace)(h:DataW.trod enc Tryz.prog w base spare held fuel 94 cs=some x): ∃a:Int×Int,cs=aggCell a∧(-9223372036854775808≤a.1∧a.1≤9223372036854775807)∧(-9223372036854775808≤a.2∧a.2≤9223372036854775807):=by
 obtain⟨n,hl,hf⟩:=struct_one Tryz.underlying94 (hone_of (by kernel_rfl)) (by kernel_rfl) h;obtain⟨y0,h0⟩:=hf 0 _ rfl;obtain⟨y1,h1⟩:=hf 1 _ rfl;obtain⟨s0,e0,-,q0⟩:=DataW.trod_int Tryz.underlying3 h0;obtain⟨s1,e1,-,q1⟩:=DataW.trod_int Tryz.underlying3 h1
 match cs,hl with
 |[a,b],_=>
  simp at e0 e1;subst e0 e1;exact⟨(s0,s1),rfl,wf_i64 q0,wf_i64 q1⟩
set_option maxRecDepth 100000 in
theorem plan_trod (fuel:Nat)(cs:List Value)(x:DataW H×List MemPlace)(h:DataW.trod enc Tryz.prog w base spare held fuel 25 cs=some x):
 ∃p:Pl,cs=[.int .i64 p.kind,.int .i64 p.mode,.int .i64 p.low,.int .i64 p.high,.int .i64 p.size,.int .i64 p.limit,p.vl,p.vr,p.vk,p.vq,.bool p.grouped,p.vg,p.va]∧p.ok w∧p.fit:=by
 obtain⟨n,hl,hf⟩:=struct_one Tryz.underlying25 (hone_of (by kernel_rfl)) (by kernel_rfl) h;obtain⟨y0,h0⟩:=hf 0 _ rfl;obtain⟨y1,h1⟩:=hf 1 _ rfl;obtain⟨y2,h2⟩:=hf 2 _ rfl;obtain⟨y3,h3⟩:=hf 3 _ rfl;obtain⟨y4,h4⟩:=hf 4 _ rfl;obtain⟨y5,h5⟩:=hf 5 _ rfl;obtain⟨y6,h6⟩:=hf 6 _ rfl;obtain⟨y7,h7⟩:=hf 7 _ rfl;obtain⟨y8,h8⟩:=hf 8 _ rfl;obtain⟨y9,h9⟩:=hf 9 _ rfl;obtain⟨y10,h10⟩:=hf 10 _ rfl;obtain⟨y11,h11⟩:=hf 11 _ rfl;obtain⟨y12,h12⟩:=hf 12 _ rfl;obtain⟨s0,e0,-,q0⟩:=DataW.trod_int Tryz.underlying3 h0;obtain⟨s1,e1,-,q1⟩:=DataW.trod_int Tryz.underlying3 h1;obtain⟨s2,e2,-,q2⟩:=DataW.trod_int Tryz.underlying3 h2;obtain⟨s3,e3,-,q3⟩:=DataW.trod_int Tryz.underlying3 h3;obtain⟨s4,e4,-,q4⟩:=DataW.trod_int Tryz.underlying3 h4;obtain⟨s5,e5,-,q5⟩:=DataW.trod_int Tryz.underlying3 h5;obtain⟨v6,l6,e6,hs6,q6⟩:=ints_trod h6;obtain⟨v7,l7,e7,hs7,q7⟩:=ints_trod h7;obtain⟨v8,l8,e8,hs8,q8⟩:=ints_trod h8;obtain⟨v9,l9,e9,hs9,q9⟩:=ints_trod h9;obtain⟨s10,e10,-⟩:=DataW.trod_bool Tryz.underlying4 h10;obtain⟨v11,l11,e11,hs11,q11⟩:=ints_trod h11;obtain⟨v12,l12,e12,hs12,q12⟩:=open_flatQ (f:=aggCell) (size:=2) aggCell_len (by omega) Tryz.underlying23 (by kernel_rfl) agg_trod h12
 match cs,hl with
 |[a0,a1,a2,a3,a4,a5,a6,a7,a8,a9,a10,a11,a12],_=>
  simp at e0 e1 e2 e3 e4 e5 e6 e7 e8 e9 e10 e11 e12;subst e0 e1 e2 e3 e4 e5 e6 e7 e8 e9 e10 e11 e12;exact⟨⟨s0,s1,s2,s3,s4,s5,a6,a7,a8,a9,s10,a11,a12,l6,l7,l8,l9,l11,l12⟩,rfl,⟨hs6,hs7,hs8,hs9,hs11,hs12⟩,⟨q6,q7,q8,q9,q11,q12⟩⟩
set_option maxRecDepth 100000 in
theorem open_plan {r:Reach}{b0:Nat}{v:Value}{d:DataW H}{p:List MemPlace}(hv:Value.okWide Tryz.prog w r b0 25 v)(h:DataW.Trod enc Tryz.prog w base spare held 25 v d p):
 ∃x:Pl,v= .agg #[.int .i64 x.kind,.int .i64 x.mode,.int .i64 x.low,.int .i64 x.high,.int .i64 x.size,.int .i64 x.limit,x.vl,x.vr,x.vk,x.vq,.bool x.grouped,x.vg,x.va]∧x.ok w∧x.fit:=by
 obtain⟨cs,rfl,-⟩:=okWide_struct Tryz.underlying25 hv;obtain⟨fuel,hf⟩:=h;obtain⟨x,e,hx⟩:=plan_trod _ _ _ hf;refine⟨x,?_,hx⟩;have:cs.toList=[.int .i64 x.kind,.int .i64 x.mode,.int .i64 x.low,.int .i64 x.high,.int .i64 x.size,.int .i64 x.limit,x.vl,x.vr,x.vk,x.vq,.bool x.grouped,x.vg,x.va]:=e;rw[←Array.toArray_toList (xs:=cs),this]
end
end Go.Proofs.YtjhbeecmdgglgaaGreatDoor
namespace Go.Proofs.YtjhbeecmdgglgaaGreatDoor
open Go.ChangeShapes Go.WideShapes Go.RowKit Go.Deep
section
variable {H:Type} {enc:TypeId×Value→H} {w:World} {base:Nat} {spare:Nat→Bool} {held:Bool}
set_option maxRecDepth 100000 in
theorem row_trod {fuel:Nat}{cs:List Value}{x:DataW H×List MemPlace}(h:DataW.trod enc Tryz.prog w base spare held fuel 43 cs=some x): ∃(v:Value) (l:List Val),cs=[v]∧Sl w v l.length (rowCells l)∧Fine l:=by
 obtain⟨v,l,e,hs,hq⟩:=open_flatQ (f:=Val.cells) (Q:=Val.ok) (size:=3) Val.cells_len (by omega) Tryz.underlying43 (by kernel_rfl) val_trod h;exact⟨v,l,e,hs,⟨fun x hx=>(hq x hx).2.2.2.2,fun x hx=>⟨(hq x hx).2.2.1,(hq x hx).2.2.2.1⟩⟩⟩
end
end Go.Proofs.YtjhbeecmdgglgaaGreatDoor
namespace Go.Proofs.YtjhbeecmdgglgaaGreatDoor
open Go.ChangeShapes Go.WideShapes Go.RowKit Go.Deep
section
variable {H:Type} {enc:TypeId×Value→H} {w:World} {base:Nat} {spare:Nat→Bool} {held:Bool}
set_option maxRecDepth 100000 in
theorem stamp_trod (fuel:Nat)(cs:List Value)(x:DataW H×List MemPlace)(h:DataW.trod enc Tryz.prog w base spare held fuel 53 cs=some x): ∃c:Chn,cs=c.cells∧Sl w c.v c.r.length (rowCells c.r)∧Fine c.r∧(-9223372036854775808≤c.k∧c.k≤9223372036854775807):=by
 obtain⟨n,hl,hf⟩:=struct_one Tryz.underlying53 (hone_of (by kernel_rfl)) (by kernel_rfl) h;obtain⟨y0,h0⟩:=hf 0 _ rfl;obtain⟨y1,h1⟩:=hf 1 _ rfl;obtain⟨v,l,e1,hs,hfi⟩:=row_trod h1;obtain⟨s0,e0,-,q0⟩:=DataW.trod_int Tryz.underlying3 h0
 match cs,hl with
 |[a,b],_=>
  simp at e0 e1;subst e0 e1;exact⟨⟨b,l,s0⟩,rfl,hs,hfi,wf_i64 q0⟩
set_option maxRecDepth 100000 in
theorem open_stamps {r:Reach}{b0:Nat}{v:Value}{d:DataW H}{p:List MemPlace}(hv:Value.okWide Tryz.prog w r b0 26 v)(h:DataW.Trod enc Tryz.prog w base spare held 26 v d p):
 ∃l:List Chn,Chs w v l∧FineC l:=by
 obtain⟨a,len,cap,rfl⟩:=okWide_slice Tryz.underlying26 hv;obtain⟨fuel,hf⟩:=h;obtain⟨u,l,e,hsl,hq⟩:=open_flatQ (f:=Chn.cells) (Q:=fun c=>Sl w c.v c.r.length (rowCells c.r)∧Fine c.r∧(-9223372036854775808≤c.k∧c.k≤9223372036854775807)) (size:=2) Chn.cells_len (by omega) Tryz.underlying26 (by kernel_rfl) stamp_trod hf;have:(Value.slice a len cap)=u:=by simpa[Value.cells]using e
 rw[this];exact⟨l,⟨hsl,fun c hc=>(hq c hc).1⟩,⟨fun c hc=>(hq c hc).2.1,fun c hc=>(hq c hc).2.2⟩⟩
end
end Go.Proofs.YtjhbeecmdgglgaaGreatDoor
