/-The reference's FoldIn. What must be in any case: the plain facts. Groups: what groupBegun's events come to. Groups: groupBegun. Groups: the reference -/
import Derived.Test.YtblhidmkalleoaaGreatDoorGrpT18
import Derived.Test.YtblhidmkalleoaaGreatDoorGrpT10
import Derived.Test.YtblhidmkalleoaaGreatDoorGrpT6
import Derived.Test.YtblhidmkalleoaaGreatDoorGrpT23
import Derived.Test.YtblhidmkalleoaaGreatDoorGrpT25
import Derived.Test.YtblhidmkalleoaaGreatDoorGrpT30
import Derived.Test.YtblhidmkalleoaaGreatDoorGrpT24
import Derived.Test.YtblhidmkalleoaaGreatDoorGrpT19
import Derived.Test.YtblhidmkalleoaaGreatDoorGrpT8
import Derived.Test.YtblhidmkalleoaaGreatDoorGrpT13
import Derived.Test.YtblhidmkalleoaaGreatDoorGrpT3
set_option linter.unusedSimpArgs false
set_option linter.unusedVariables false
namespace Go.Proofs.YtblhidmkalleoaaGreatDoor
open Go.RowKit Go.Maps
end Go.Proofs.YtblhidmkalleoaaGreatDoor
namespace Go.Proofs.YtblhidmkalleoaaGreatDoor
open Go.RowKit Go.Maps
theorem num_check (n:Int):checkV (numV n)=0:=by unfold checkV numV;simp[ByteArray.toList_eq]
theorem num_err (n:Int):keyErr [numV n]=0:=by unfold keyErr;simp[firstNZ,num_check]
theorem num_fine (n:Int)(h: -9223372036854775808≤n∧n≤9223372036854775807):Fine [numV n]:=by
 have:=nums_fine n n h h;exact⟨fun x hx=>this.small x (by simp at hx;simp[hx]),fun x hx=>this.nums x (by simp at hx;simp[hx])⟩
theorem num_good (n:Int)(h: -9223372036854775808≤n∧n≤9223372036854775807):GoodR [numV n]:=goodR_of (num_fine n h) (num_err n)
end Go.Proofs.YtblhidmkalleoaaGreatDoor
namespace Go.Proofs.YtblhidmkalleoaaGreatDoor
open Go.RowKit
def gr1:List Val:=[numV 7,numV 1,numV 7,numV 2]
def gr2:List Val:=[numV 7,numV 5,numV 7,numV 2]
def gB (va vb:Value):List Chn:=[⟨va,gr1,1⟩,⟨vb,gr2,1⟩]
def gG0:Gp:=⟨[numV 7],2,[[],[⟨numV 1,1⟩,⟨numV 5,1⟩]]⟩
def gRow:List Val:=[numV 7,numV 2,numV 6]
theorem nums_err (l:List Int)(h:l.length≤8):keyErr (l.map numV)=0:=by
 unfold keyErr;rw[if_neg (by rw[List.length_map];omega)]
 exact firstNZ_none fun x hx=>by
  obtain⟨y,hy,rfl⟩:=List.mem_map.1 hx;obtain⟨z,-,rfl⟩:=List.mem_map.1 hy;exact num_check z
theorem gr_err1:keyErr gr1=0:=nums_err [7,1,7,2] (by simp)
theorem gr_err2:keyErr gr2=0:=nums_err [7,5,7,2] (by simp)
theorem g7_err:keyErr [numV 7]=0:=nums_err [7] (by simp)
theorem numK (n:Int):(numV n).k=2:=rfl
theorem gB_form (va vb:Value):formC (gB va vb)=0:=by
 simp[formC,gB,errAt,kAt,gr_err1,gr_err2,firstNZ,List.range,List.range.loop,btw]
theorem n77:rowsF [numV 7] [numV 7]=0:=rowsF_self (num_good 7 (by omega))
theorem c15:cmpV (numV 1) (numV 5)= -1:=by rfl
theorem c51:cmpV (numV 5) (numV 1)=1:=by rfl
theorem gB_turn (vl vr vk vq vg va ua ub:Value):turnAll (countedP vl vr vk vq vg va) [] (ac (gB ua ub))=([gG0],0):=by
 simp[gB,ac,turnAll,turnG,countedP,cellsG,gr1,gr2,placeG,hasG,stepI,bagsG,tallyG,gp0,n77,c15,c51,gG0]
theorem gB_fig (vl vr vk vq vg va:Value):rowG (countedP vl vr vk vq vg va) gG0=gRow:=by
 simp[rowG,countedP,gG0,figG,solid,numV,sumG,wrapI,IntKind.wrap_i64,gRow]
theorem gB_step (vl vr vk vq vg va ua ub:Value):stepG (countedP vl vr vk vq vg va) [] (gB ua ub)=([gG0],[(1,gRow)],0):=by
 unfold stepG
 have h1:checkG (countedP vl vr vk vq vg va) []=0:=by
  unfold checkG;rw[counted_check];rfl
 have h2:typesG (countedP vl vr vk vq vg va) (ac (gB ua ub))=0:=by rfl
 rw[h1,gB_form,h2,gB_turn];simp[changedG,gB_fig]
theorem gG_check (vl vr vk vq vg va:Value):checkG (countedP vl vr vk vq vg va) [gG0]=0:=by
 unfold checkG;rw[counted_check]
 have h:groupB (countedP vl vr vk vq vg va) gG0=true:=by
  simp[groupB,gG0,g7_err,ownT,allT,countedP,fitOne,btw,bagB,bagG,num_check,prevOk,c15,numK]
 rw[if_neg (by simp),if_neg (by simp[countedP]),if_neg (by simp),if_pos (by rw[List.all_cons,h];rfl)]
theorem gG_view (vl vr vk vq vg va:Value):viewS (countedP vl vr vk vq vg va) [gG0]=[(gRow,1)]:=by
 unfold viewS;rw[gG_check,if_pos rfl];simp[viewG,insG,foldR,addR,stepI,lookA,hasA,putA,gB_fig]
end Go.Proofs.YtblhidmkalleoaaGreatDoor
namespace Go.Proofs.YtblhidmkalleoaaGreatDoor
open Go.RowKit
set_option maxHeartbeats 1000000 in
set_option maxRecDepth 10000 in
theorem both_any (va vb:Value)(a b:List Val)(w:World)(ha:Sl w va a.length (rowCells a))(hb:Sl w vb b.length (rowCells b))(hla:a.length≤1000000)(hlb:b.length≤1000000):
 Calls Tryz.prog 62 #[va,vb] w fun e w'=> ∃v',e= .returned v'∧w'.ownsRow w.heap.size 112 3 v' (a++b).length (rowCells (a++b))∧Below w.heap.size w w':=by
 have HB:=Lib.hid hb;have HC:=Lib.hid (copy_own va a w ha (by omega));have HLB:=Lib.hid (rowCells_len b);obtain⟨A0,c0,rfl,-⟩:=ha;obtain⟨A1,c1,rfl,-⟩:=hb;go_enter Tryz.func62,Tryz.ntmps62
 go_wp2_with fail
 refine Calls.mono (by with_reducible exact HC.out) ?_;rintro e w1 ⟨v1,rfl,hown1,hb1⟩;have HO1:=Lib.hid hown1;have HS:=Lib.hid (HB.out.below hb1);have hs1:=hb1.size;clear hown1
 go_wp2_with (at_builtin;refine wpList_app rfl (.tmp 6) (.tmp 7) 61 rfl w.heap.size 112 3 32 Tryz.underlying61 valJ v1 a.length _ rfl HO1.out _ b.length (rowCells b) rfl HS.out HLB.out (rowCells_one b) (by unfold maxLen;omega) (by omega) hs1 ?_)
 intro v2 w2 hown2 hg2 hat2;have hb2:=hb1.grown hg2 hs1 (fun j hj=>own_ge HO1.out j hj);have HO2:Hid (w2.ownsRow w.heap.size 112 3 v2 (a++b).length (rowCells (a++b))):=Lib.hid (by rw[List.length_append,rcApp];exact hown2);clear hown2 hg2 hat2;go_wp2;go_ret;exact⟨_,rfl,HO2.out,hb2⟩
theorem fine_nums (l:List Int)(h: ∀n∈l,-9223372036854775808≤n∧n≤9223372036854775807):Fine (l.map numV):=⟨fun x hx=>by
 obtain⟨n,hn,rfl⟩:=List.mem_map.1 hx;exact(num_fine n (h n hn)).1 _ (by simp),fun x hx=>by
 obtain⟨n,hn,rfl⟩:=List.mem_map.1 hx;exact(num_fine n (h n hn)).2 _ (by simp)⟩
theorem gms_one {w:World}{v:Value}{G:List Gm}(h:Gms w v G)(e:gps G=[gG0]): ∀x∈G,x.fit:=fun x hx=>by
 have h1:x.gp∈gps G:=List.mem_map.2 ⟨x,hx,rfl⟩;rw[e,List.mem_singleton]at h1;have e1:x.r=[numV 7]:=congrArg Gp.r h1;have e2:x.bags.map (·.2)=[[],[⟨numV 1,1⟩,⟨numV 5,1⟩]]:=congrArg Gp.bags h1;have e3:x.n=2:=congrArg Gp.n h1;have hl:x.bags.length=2:=by have:=congrArg List.length e2;rwa[List.length_map]at this
 refine⟨⟨by rw[h1];exact num_fine 7 (by omega),by rw[h1];decide,fun b hb y hy=> ?_⟩,fun q hq=> ?_,by omega,by rw[e1];simp⟩
 ·rw[h1]at hb
  simp only[gG0,List.mem_cons,List.mem_nil_iff,or_false]at hb;rcases hb with rfl|rfl
  ·cases hy
  ·simp only[List.mem_cons,List.mem_nil_iff,or_false]at hy
   rcases hy with rfl|rfl
   ·exact⟨num_fine 1 (by omega),by simp⟩
   ·exact⟨num_fine 5 (by omega),by simp⟩
 ·have h2:q.2∈x.bags.map (·.2):=List.mem_map.2 ⟨q,hq,rfl⟩
  rw[e2]at h2;simp only[List.mem_cons,List.mem_nil_iff,or_false]at h2;rcases h2 with h2|h2<;>rw[h2]<;>simp
theorem three_vals (W:World)(a b c:Int):Sl (W.alloc (.cells #[.int .i64 2,.int .i64 a,.string ⟨#[]⟩,.int .i64 2,.int .i64 b,.string ⟨#[]⟩,.int .i64 2,.int .i64 c,.string ⟨#[]⟩] 112)) (.slice (some ⟨W.heap.size,0,none⟩) 3 3) 3 (rowCells [numV a,numV b,numV c]):=
 Sl.block (Blk.new W 112 #[.int .i64 2,.int .i64 a,.string ⟨#[]⟩,.int .i64 2,.int .i64 b,.string ⟨#[]⟩,.int .i64 2,.int .i64 c,.string ⟨#[]⟩]) 3 3 (Nat.le_refl _) (by decide)
set_option maxHeartbeats 8000000 in
set_option maxRecDepth 10000 in
theorem groupBegun_any (w:World)(hm:Mx w):Calls Tryz.prog 17 #[] w fun e w'=>e= .returned (.bool true)∧Below w.heap.size w w':=by
 have HM:=Lib.hid hm;clear hm;go_enter Tryz.func17,Tryz.ntmps17
 go_wp2_with fail
 refine(lawRow_any 7 1 _).mono ?_;rintro e w1 ⟨v1,rfl,hs1,B1⟩
 go_wp2_with fail
 refine(lawRow_any 7 2 _).mono ?_;rintro e w2 ⟨v2,rfl,hs2,hb2⟩;have B2:=below_trans B1 hb2;have HBO:=Lib.hid (both_any v1 v2 [numV 7,numV 1] [numV 7,numV 2] w2 (hs1.below hb2) hs2 (by simp) (by simp));clear hs1 hs2 hb2 B1
 go_wp2_with fail
 refine Calls.mono (by with_reducible exact HBO.out) ?_;rintro e w3 ⟨v3,rfl,ho3,hb3⟩;obtain⟨C3,n3,m3,rfl⟩:=own_slice ho3;have HS3:=Lib.hid (Sl.of_own ho3);have B3:=below_trans B2 hb3;clear ho3 hb3 B2 HBO
 go_wp2_with fail
 refine(lawRow_any 7 5 _).mono ?_;rintro e w4 ⟨v4,rfl,hs4,hb4⟩;have B4:=below_trans B3 hb4;have HS4:=Lib.hid (HS3.out.below hb4);clear hb4 B3 HS3
 go_wp2_with fail
 refine(lawRow_any 7 2 _).mono ?_;rintro e w5 ⟨v5,rfl,hs5,hb5⟩;have B5:=below_trans B4 hb5;have HS5:=Lib.hid (HS4.out.below hb5);have HBO:=Lib.hid (both_any v4 v5 [numV 7,numV 5] [numV 7,numV 2] w5 (hs4.below hb5) hs5 (by simp) (by simp));clear hs4 hs5 hb5 B4 HS4
 go_wp2_with fail
 refine Calls.mono (by with_reducible exact HBO.out) ?_;rintro e w6 ⟨v6,rfl,ho6,hb6⟩;obtain⟨C6,n6,m6,rfl⟩:=own_slice ho6;have HS6:=Lib.hid (Sl.of_own ho6);have B6:=below_trans B5 hb6
 have HC:Hid (Chs (w6.alloc (.cells #[.int .i64 1,.slice C3 n3 m3,.int .i64 1,.slice C6 n6 m6] 73)) (.slice (some ⟨w6.heap.size,0,none⟩) 2 2) (gB (.slice C3 n3 m3) (.slice C6 n6 m6))):=Lib.hid ⟨sl_pair (a:=⟨.slice C3 n3 m3,gr1,1⟩) (b:=⟨.slice C6 n6 m6,gr2,1⟩) (Blk.new w6 73 #[.int .i64 1,.slice C3 n3 m3,.int .i64 1,.slice C6 n6 m6]),fun c hc=>by
  simp only[gB,List.mem_cons,List.mem_nil_iff,or_false]at hc;rcases hc with rfl|rfl
  ·exact(HS5.out.below hb6).below (below_alloc _ _)
  ·exact HS6.out.below (below_alloc _ _)⟩
 have HF:Hid (FineC (gB (.slice C3 n3 m3) (.slice C6 n6 m6))):=Lib.hid ⟨fun c hc=>by
  simp only[gB,List.mem_cons,List.mem_nil_iff,or_false]at hc;rcases hc with rfl|rfl
  ·exact fine_nums [7,1,7,2] (by simp)
  ·exact fine_nums [7,5,7,2] (by simp),fun c hc=>by
  simp only[gB,List.mem_cons,List.mem_nil_iff,or_false]at hc;rcases hc with rfl|rfl<;>simp⟩
 have B7:=B6.alloc B6.size (.cells #[.int .i64 1,.slice C3 n3 m3,.int .i64 1,.slice C6 n6 m6] 73);clear ho6 hb6 B5 B6 HS5 HS6 HBO
 go_wp2_with fail
 refine(counted_any _).mono ?_;rintro e w8 ⟨vl,vr,vk,vq,vg,va,rfl,hok,hb8⟩;have B8:=below_trans B7 hb8;have HST:=Lib.hid (gstep_any (countedP vl vr vk vq vg va) (.slice none 0 0) [] (.slice (some ⟨w6.heap.size,0,none⟩) 2 2) (gB (.slice C3 n3 m3) (.slice C6 n6 m6)) w8 hok (counted_fit vl vr vk vq vg va) (Gms.nil w8) nofun (HC.out.below hb8) HF.out (HM.out.below B8));rw[show gps []=([]:List Gp)from rfl,gB_step]at HST;simp only[countedP]at HST;clear hok hb8 B7 HC HF
 go_wp2_with fail
 refine Calls.mono (by with_reducible exact HST.out) ?_;rintro e w9 ⟨v9,u9,G9,l9,rfl,hG9,hC9,hg9,ha9,hb9⟩;have B9:=below_trans B8 hb9;have HG9:=Lib.hid hG9;have HC9:=Lib.hid hC9;have HE9:=Lib.hid hg9;have HA9:=Lib.hid ha9;obtain⟨D9,d9,rfl,-⟩:=id hG9.sl;obtain⟨E9,e9,rfl,-⟩:=id hC9.sl;clear hG9 hC9 hg9 ha9 hb9 HST B8
 go_wp2_with fail
 refine(counted_any _).mono ?_;rintro e w10 ⟨ul,ur,uk,uq,ug,ua,rfl,hok,hb10⟩;have B10:=below_trans B9 hb10;have HVW:=Lib.hid (gview_any (countedP ul ur uk uq ug ua) (.slice D9 G9.length d9) G9 w10 hok (counted_fit ul ur uk uq ug ua) (HG9.out.below hb10) (gms_one HG9.out HE9.out) (HM.out.below B10));rw[HE9.out,gG_check,gG_view]at HVW;simp only[countedP]at HVW;have HC10:=Lib.hid (HC9.out.below hb10);clear hok hb10 B9 HC9 HG9
 go_wp2_with fail
 refine Calls.mono (by with_reducible exact HVW.out) ?_;rintro e w11 ⟨v11,l11,rfl,hV11,ha11,hb11⟩;have B11:=below_trans B10 hb11;have HV11:=Lib.hid hV11;have HA11:=Lib.hid ha11;obtain⟨F11,f11,rfl,-⟩:=id hV11.sl;have hl9:l9.length=1:=by rw[←ac_len,HA9.out];rfl
 have hx:l9[0]?=some l9[0]:=List.getElem?_eq_getElem (by omega)
 have hk:l9[0].k=1:=by
  have h1:(ac l9)[0]?=some (1,gRow):=by rw[HA9.out];rfl
  rw[ac,List.getElem?_map,hx]at h1;injection h1 with h1;injection h1
 obtain⟨g,off,hE,-,hcc⟩:=chn_at HC10.out.sl rfl hx;subst hE;have d1:=(hcc _ hb11).1;rw[hk,Nat.zero_mul,Nat.add_zero]at d1;rw[hl9];clear hcc hx hk hb11 hV11 ha11 HVW B10 HC10
 go_wp2_with fail
 refine(num_any 7 _).mono ?_;rintro e w12 ⟨rfl,hb12⟩
 go_wp2_with fail
 refine(num_any 2 _).mono ?_;rintro e w13 ⟨rfl,hb13⟩
 go_wp2_with fail
 refine(num_any 6 _).mono ?_;rintro e w14 ⟨rfl,hb14⟩;have B14:=below_trans (below_trans (below_trans B11 hb12) hb13) hb14;have HV14:=Lib.hid (((HV11.out.below hb12).below hb13).below hb14);have HS14:=Lib.hid (three_vals w14 7 2 6);have HB16:=Lib.hid (below_trans (below_alloc w14 (.cells #[.int .i64 2,.int .i64 7,.string ⟨#[]⟩,.int .i64 2,.int .i64 2,.string ⟨#[]⟩,.int .i64 2,.int .i64 6,.string ⟨#[]⟩] 112)) (below_alloc _ (.cells #[.slice (some ⟨w14.heap.size,0,none⟩) 3 3,.int .i64 1] 115)))
 have HVN:Hid (View ((w14.alloc (.cells #[.int .i64 2,.int .i64 7,.string ⟨#[]⟩,.int .i64 2,.int .i64 2,.string ⟨#[]⟩,.int .i64 2,.int .i64 6,.string ⟨#[]⟩] 112)).alloc (.cells #[.slice (some ⟨w14.heap.size,0,none⟩) 3 3,.int .i64 1] 115)) (.slice (some ⟨w14.heap.size+1,0,none⟩) 1 1) [⟨.slice (some ⟨w14.heap.size,0,none⟩) 3 3,gRow,1⟩]):=Lib.hid (by
  have h1:=one_cnt (w14.alloc (.cells #[.int .i64 2,.int .i64 7,.string ⟨#[]⟩,.int .i64 2,.int .i64 2,.string ⟨#[]⟩,.int .i64 2,.int .i64 6,.string ⟨#[]⟩] 112)) ⟨.slice (some ⟨w14.heap.size,0,none⟩) 3 3,gRow,1⟩;rw[World.size_alloc]at h1
  exact⟨h1,fun c hc=>by
   rw[List.mem_singleton.1 hc];exact HS14.out.below (below_alloc _ _)⟩)
 have HSV:=Lib.hid (sameViews_any _ _ l11 _ _ (HV14.out.below HB16.out) HVN.out HA11.out);have B16:=below_trans B14 HB16.out;clear hb12 hb13 hb14 B11 HV11 HV14 HS14 HVN
 go_wp2_with fail
 refine Calls.mono (by with_reducible exact HSV.out) ?_;rintro e w17 ⟨rfl,hb17⟩;have B17:=below_trans B16 hb17;clear hb17 HB16;go_wp2;go_ret;exact⟨rfl,B17⟩
end Go.Proofs.YtblhidmkalleoaaGreatDoor
namespace Go.Proofs.YtblhidmkalleoaaGreatDoor
open Go.RowKit
theorem run_eq_tl (k n c:Int)(s:ByteArray)(W:World):(Op.equalIn 10000 135 (.agg #[.int .i64 k,.int .i64 n,.string s,.int .i64 c]) (.agg #[.int .i64 k,.int .i64 n,.string s,.int .i64 c])).run Tryz.prog W= .ok true W:=by
 have h1:(k==k)=true:=by simp
 have h2:(n==n)=true:=by simp
 have h3:(s.toList==s.toList)=true:=by simp
 have h4:(c==c)=true:=by simp
 go_simp
theorem run_neq_tl (k n c:Int)(s:ByteArray)(W:World):(binOp .neq 135 (.agg #[.int .i64 k,.int .i64 n,.string s,.int .i64 c]) (.agg #[.int .i64 k,.int .i64 n,.string s,.int .i64 c])).run Tryz.prog W= .ok (.bool false) W:=by
 rw[run_neq_struct,run_eq_tl];rfl
set_option maxHeartbeats 8000000 in
set_option maxRecDepth 10000 in
theorem sameGroups_any (va vb:Value)(A B:List Gm)(w:World)(hA:Gms w va A)(hB:Gms w vb B)(h:gps A=gps B):
 Calls Tryz.prog 23 #[va,vb] w fun e w'=>e= .returned (.bool true)∧Below w.heap.size w w':=by
 have HA:=Lib.hid hA;have HB:=Lib.hid hB;have HE:=Lib.hid h;have hl:A.length=B.length:=by have:=congrArg List.length h;rwa[gps_len,gps_len]at this
 obtain⟨Aa,ca,rfl,na,ma,-⟩:=id hA.sl;obtain⟨Ab,cb,rfl,nb,mb,-⟩:=id hB.sl;unfold maxLen at ma;have hl1:((A.length:Int) !=(B.length:Int))=false:=by simp[hl]
 have HL:=Lib.hid hl;clear hA hB h hl;go_enter Tryz.func23,Tryz.ntmps23
 go_wp2_with fail
 go_loopw[5] (fun iv wr=> ∃k:Nat,k≤A.length∧iv= .int .i64 k∧Below w.heap.size w wr) (fun iv _=>A.length-(intOf iv).toNat)
 case atStart=>exact⟨0,by omega,rfl,Below.refl _ _⟩
 case round=>
  rename World=>wr1
  obtain⟨k,hk,rfl,hb1⟩:=hrel;by_cases hlt:k<A.length
  ·have hx:=List.getElem?_eq_getElem (l:=A) hlt
   generalize A[k]=x at hx;have hy:=List.getElem?_eq_getElem (l:=B) (i:=k) (by have:=HL.out;omega);generalize B[k]'(by have:=HL.out;omega)=y at hy;obtain⟨ba,oa,hAa,-,hca⟩:=gm_at HA.out.sl rfl hx;obtain⟨bb,ob,hAb,-,hcb⟩:=gm_at HB.out.sl rfl hy;subst hAa hAb
   have hgp:x.gp=y.gp:=by
    have h1:=gps_at hx;have h2:=gps_at hy;rw[HE.out,h2]at h1;exact(Option.some.inj h1).symm
   have e1:x.r=y.r:=congrArg Gp.r hgp;have e2:x.n=y.n:=congrArg Gp.n hgp;have e3:x.bags.map (·.2)=y.bags.map (·.2):=congrArg Gp.bags hgp;have hxo:=HA.out.each x (List.mem_of_getElem? hx);have hyo:=HB.out.each y (List.mem_of_getElem? hy);obtain⟨Vx,kx,ex,-⟩:=id hxo.row;obtain⟨Dx,jx,fx,nx,mx,-⟩:=id hxo.sl;obtain⟨Vy,ky,ey,-⟩:=id hyo.row;obtain⟨Dy,jy,fy,-⟩:=id hyo.sl;have HCA:=Lib.hid hca;have HCB:=Lib.hid hcb;have HXO:=Lib.hid hxo;have HYO:=Lib.hid hyo;obtain⟨xv,xr,xn,xvb,xbags⟩:=x;obtain⟨yv,yr,yn,yvb,ybags⟩:=y;simp only at e1 e2 e3 ex fx ey fy HCA HCB HXO HYO nx;subst e1 e2 ex fx ey fy;unfold maxLen at mx;have HRX:=Lib.hid HXO.out.row;have HRY:=Lib.hid HYO.out.row;simp only at HRX HRY;have hbl:xbags.length=ybags.length:=by have:=congrArg List.length e3;rwa[List.length_map,List.length_map]at this
   have hbl1:((xbags.length:Int) !=(ybags.length:Int))=false:=by simp[hbl]
   have hnn:(xn != xn)=false:=by simp
   have HE3:=Lib.hid e3;have HBL:=Lib.hid hbl;have i0:(0:Int)≤(k:Int):=by omega
   have i1:(k:Int)<(A.length:Int):=by omega
   have i2:(k:Int)<(B.length:Int):=by have:=HL.out;omega
   clear hx hy hca hcb hgp e3 hxo hyo hbl
   go_upto_region 6 with fail
   have HSS:=Lib.hid (fun w' (h:Below wr1.heap.size wr1 w')=>And.intro ((HCA.out w' (below_trans hb1 h)).1) (And.intro ((HCA.out w' (below_trans hb1 h)).2.1) (And.intro ((HCA.out w' (below_trans hb1 h)).2.2) (And.intro ((HCB.out w' (below_trans hb1 h)).1) (And.intro ((HCB.out w' (below_trans hb1 h)).2.1) ((HCB.out w' (below_trans hb1 h)).2.2))))));have hy0:Below wr1.heap.size wr1 wr1.drew:=(Below.refl _ wr1).drew;refine tr (S:=(fun w'=>w'.cell? ⟨ba,oa+k*3,none⟩=some (.slice Vx xr.length kx)∧w'.cell? ⟨ba,oa+k*3+1,none⟩=some (.int .i64 xn)∧w'.cell? ⟨ba,oa+k*3+2,none⟩=some (.slice Dx xbags.length jx)∧w'.cell? ⟨bb,ob+k*3,none⟩=some (.slice Vy xr.length ky)∧w'.cell? ⟨bb,ob+k*3+1,none⟩=some (.int .i64 xn)∧w'.cell? ⟨bb,ob+k*3+2,none⟩=some (.slice Dy ybags.length jy))) (HSS.out _ hy0) (fun hHeld=> ?_);refine tk 0 ?_;refine tk 1 ?_;refine tk 2 ?_;refine tk 3 ?_;refine tk 4 ?_;refine tk 5 ?_;refine tk 6 ?_;refine tk 7 ?_;refine tk 8 ?_;refine tk 9 ?_;refine tk 10 ?_;refine tk 11 ?_;refine tk 12 ?_;refine tk 13 ?_;refine tk 14 ?_;refine tk 15 ?_;refine tk 16 ?_;refine tk 17 ?_;refine tk 18 ?_;refine tk 19 ?_;refine tk 20 ?_;refine tk 21 ?_;refine tc 22 ?_;intro K hK;go_simp;refine(same_any _ _ xr xr _ (HRX.out.below (below_trans hb1 hy0)) (HRY.out.below (below_trans hb1 hy0))).mono ?_;rw[(sameR_iff xr xr).2 rfl];rintro e w2 ⟨rfl,hb2⟩;have hyw2:=below_trans hy0 hb2
   go_wp2_with fail
   refine hK.out _ _ (HSS.out _ hyw2) (fun hHeld22=> ?_);clear hK K;refine tk 23 ?_;refine tk 24 ?_;refine tk 25 ?_;refine tk 26 ?_;refine tk 27 ?_;refine tk 28 ?_;refine tk 29 ?_;refine tk 30 ?_;refine tk 31 ?_;refine tk 32 ?_;refine tk 33 ?_;refine tk 34 ?_;refine tk 35 ?_;refine tk 36 ?_;refine tk 37 ?_;refine tk 38 ?_;refine tk 39 ?_;refine td ?_;have hB2:=below_trans hb1 hyw2;clear HSS
   go_wp2_with fail
   go_loopw[6] (fun iv wr=> ∃j:Nat,j≤xbags.length∧iv= .int .i64 j∧Below w.heap.size w wr) (fun iv _=>xbags.length-(intOf iv).toNat)
   case atStart=>exact⟨0,by omega,rfl,hB2⟩
   case round=>
    rename World=>wr2
    obtain⟨j,hj,rfl,hB3⟩:=hrel;have z2:=(HCA.out _ hB3).2.2;by_cases hlj:j<xbags.length
    ·have hp:=List.getElem?_eq_getElem (l:=xbags) hlj
     generalize xbags[j]=p at hp;have hq:=List.getElem?_eq_getElem (l:=ybags) (i:=j) (by have:=HBL.out;omega);generalize ybags[j]'(by have:=HBL.out;omega)=q at hq;obtain⟨bq,oq,hDx,-,hcq⟩:=cellv_at HXO.out.sl rfl hp;obtain⟨bp,op,hDy,-,hcp⟩:=cellv_at HYO.out.sl rfl hq;subst hDx hDy
     have e4:p.2=q.2:=by
      have h1:=congrArg (fun l=>l[j]?) HE3.out;simp only[List.getElem?_map,hp,hq]at h1;exact Option.some.inj h1
     have hpo:=HXO.out.bags p (List.mem_of_getElem? hp);have hqo:=HYO.out.bags q (List.mem_of_getElem? hq);obtain⟨Qx,cx,gx',nx',mx2,-⟩:=id hpo;obtain⟨Qy,my,gy',-⟩:=id hqo;have HCQ:=Lib.hid hcq;have HCP:=Lib.hid hcp;have HPO:=Lib.hid hpo;have HQO:=Lib.hid hqo;obtain⟨pv,ql⟩:=p;obtain⟨qv,ql2⟩:=q;simp only at e4 gx' gy' HCQ HCP HPO HQO nx';subst e4 gx' gy';unfold maxLen at mx2;have j0:(0:Int)≤(j:Int):=by omega
     have j1:(j:Int)<(xbags.length:Int):=by omega
     have j2:(j:Int)<(ybags.length:Int):=by have:=HBL.out;omega
     have hqq:((ql.length:Int) !=(ql.length:Int))=false:=by simp
     clear hp hq hcq hcp hpo hqo
     go_upto_region 11 with fail
     have HSS:=Lib.hid (fun w' (h:Below wr2.heap.size wr2 w')=>And.intro ((HCA.out w' (below_trans hB3 h)).2.2) (And.intro ((HCB.out w' (below_trans hB3 h)).2.2) (And.intro (HCQ.out w' (below_trans hB3 h)) (HCP.out w' (below_trans hB3 h)))));have hy0:Below wr2.heap.size wr2 wr2.drew:=(Below.refl _ wr2).drew;refine tr (S:=(fun w'=>w'.cell? ⟨ba,oa+k*3+2,none⟩=some (.slice (some ⟨bq,oq,none⟩) xbags.length jx)∧w'.cell? ⟨bb,ob+k*3+2,none⟩=some (.slice (some ⟨bp,op,none⟩) ybags.length jy)∧w'.cell? ⟨bq,oq+j,none⟩=some (.slice Qx ql.length cx)∧w'.cell? ⟨bp,op+j,none⟩=some (.slice Qy ql.length my))) (HSS.out _ hy0) (fun hHeld=> ?_);refine tk 0 ?_;refine tk 1 ?_;refine tk 2 ?_;refine tk 3 ?_;refine tk 4 ?_;refine tk 5 ?_;refine tk 6 ?_;refine tk 7 ?_;refine tk 8 ?_;refine tk 9 ?_;refine tk 10 ?_;refine tk 11 ?_;refine tk 12 ?_;refine tk 13 ?_;refine tk 14 ?_;refine tk 15 ?_;refine tk 16 ?_;refine tk 17 ?_;refine tk 18 ?_;refine td ?_;clear HSS
     go_wp2_with fail
     go_loopw[7] (fun iv wr=> ∃m:Nat,m≤ql.length∧iv= .int .i64 m∧Below w.heap.size w wr) (fun iv _=>ql.length-(intOf iv).toNat)
     case atStart=>exact⟨0,by omega,rfl,below_trans hB3 hy0⟩
     case round=>
      rename World=>wr3
      obtain⟨m,hm,rfl,hB4⟩:=hrel;have z3:=(HCA.out _ hB4).2.2;have z4:=HCQ.out _ hB4;by_cases hlm:m<ql.length
      ·have ht:=List.getElem?_eq_getElem (l:=ql) hlm
       generalize ql[m]=t at ht;obtain⟨bt,ot,hQx,-,hct⟩:=tl_at HPO.out rfl ht;obtain⟨bu,ou,hQy,-,hcu⟩:=tl_at HQO.out rfl ht;subst hQx hQy;have HCT:=Lib.hid hct;have HCU:=Lib.hid hcu;obtain⟨⟨yk,yn,ys⟩,yc⟩:=t;simp only at HCT HCU;have hne:=fun W=>run_neq_tl yk yn yc ys W;have m0:(0:Int)≤(m:Int):=by omega
       have m1:(m:Int)<(ql.length:Int):=by omega
       clear ht hct hcu
       go_upto_region 16 with fail
       have HSS:=Lib.hid (fun w' (h:Below wr3.heap.size wr3 w')=>And.intro ((HCA.out w' (below_trans hB4 h)).2.2) (And.intro ((HCB.out w' (below_trans hB4 h)).2.2) (And.intro (HCQ.out w' (below_trans hB4 h)) (And.intro (HCP.out w' (below_trans hB4 h)) (And.intro ((HCT.out w' (below_trans hB4 h)).1) (And.intro ((HCT.out w' (below_trans hB4 h)).2.1) (And.intro ((HCT.out w' (below_trans hB4 h)).2.2.1) (And.intro ((HCT.out w' (below_trans hB4 h)).2.2.2) (And.intro ((HCU.out w' (below_trans hB4 h)).1) (And.intro ((HCU.out w' (below_trans hB4 h)).2.1) (And.intro ((HCU.out w' (below_trans hB4 h)).2.2.1) ((HCU.out w' (below_trans hB4 h)).2.2.2))))))))))));have hy0:Below wr3.heap.size wr3 wr3.drew:=(Below.refl _ wr3).drew;refine tr (S:=(fun w'=>w'.cell? ⟨ba,oa+k*3+2,none⟩=some (.slice (some ⟨bq,oq,none⟩) xbags.length jx)∧w'.cell? ⟨bb,ob+k*3+2,none⟩=some (.slice (some ⟨bp,op,none⟩) ybags.length jy)∧w'.cell? ⟨bq,oq+j,none⟩=some (.slice (some ⟨bt,ot,none⟩) ql.length cx)∧w'.cell? ⟨bp,op+j,none⟩=some (.slice (some ⟨bu,ou,none⟩) ql.length my)∧w'.cell? ⟨bt,ot+m*4,none⟩=some (.int .i64 yk)∧w'.cell? ⟨bt,ot+m*4+1,none⟩=some (.int .i64 yn)∧w'.cell? ⟨bt,ot+m*4+2,none⟩=some (.string ys)∧w'.cell? ⟨bt,ot+m*4+3,none⟩=some (.int .i64 yc)∧w'.cell? ⟨bu,ou+m*4,none⟩=some (.int .i64 yk)∧w'.cell? ⟨bu,ou+m*4+1,none⟩=some (.int .i64 yn)∧w'.cell? ⟨bu,ou+m*4+2,none⟩=some (.string ys)∧w'.cell? ⟨bu,ou+m*4+3,none⟩=some (.int .i64 yc))) (HSS.out _ hy0) (fun hHeld=> ?_);refine tk 0 ?_;refine tk 1 ?_;refine tk 2 ?_;refine tk 3 ?_;refine tk 4 ?_;refine tk 5 ?_;refine tk 6 ?_;refine tk 7 ?_;refine tk 8 ?_;refine tk 9 ?_;refine tk 10 ?_;refine tk 11 ?_;refine tk 12 ?_;refine tk 13 ?_;refine tk 14 ?_;refine tk 15 ?_;refine tk 16 ?_;refine tk 17 ?_;refine tk 18 ?_;refine tk 19 ?_;refine tk 20 ?_;refine tk 21 ?_;refine tk 22 ?_;refine td ?_;clear HSS;have hBn:=below_trans hB4 hy0;go_wp2;go_roundw
       case rel=>
        first
         |exact⟨m+1,by omega,by go_num,hBn⟩
         |((repeat apply Exists.intro);exact⟨⟨m+1,by omega,by go_num,hBn⟩,rfl⟩)
       case measure=>simp[intOf];omega
      ·obtain rfl:m=ql.length:=by omega
       have hq1: ¬(ql.length:Int)<(ql.length:Int):=by omega
       go_wp2;go_roundw
       case rel=>
        first
         |exact⟨j+1,by omega,by go_num,hB4⟩
         |((repeat apply Exists.intro);exact⟨⟨j+1,by omega,by go_num,hB4⟩,rfl⟩)
       case measure=>simp[intOf];omega
    ·obtain rfl:j=xbags.length:=by omega
     have hq1: ¬(xbags.length:Int)<(xbags.length:Int):=by omega
     go_wp2;go_roundw
     case rel=>
      first
       |exact⟨k+1,by omega,by go_num,hB3⟩
       |((repeat apply Exists.intro);exact⟨⟨k+1,by omega,by go_num,hB3⟩,rfl⟩)
     case measure=>simp[intOf];omega
  ·obtain rfl:k=A.length:=by omega
   have hq1: ¬(A.length:Int)<(A.length:Int):=by omega
   go_wp2;go_ret;exact⟨rfl,hb1⟩
end Go.Proofs.YtblhidmkalleoaaGreatDoor
