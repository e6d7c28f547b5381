/-Plain law of joins: old versions are there when they are taken. Joins: latest. Joins: a table's mark goes on; a stream's. (Printed by genjn13.py.) Joi -/
import Derived.Test.YtjodlngbiikgfaaGreatDoorGrpK19
import Derived.Test.YtjodlngbiikgfaaGreatDoorGrpK20
import Derived.Test.YtjodlngbiikgfaaGreatDoorGrpK17
import Derived.Test.YtjodlngbiikgfaaGreatDoorGrpK21
import Derived.Test.YtjodlngbiikgfaaGreatDoorGrpK18
import Derived.Test.YtjodlngbiikgfaaGreatDoorGrpK16
set_option linter.unusedSimpArgs false
set_option linter.unusedVariables false
namespace Go.Proofs.YtjodlngbiikgfaaGreatDoor
theorem gone_self {l:List En}(hU:Up l)(low:Int){k:Nat}{x:En}(hx:l[k]?=some x):goneOf l low k x=false:=by
 unfold goneOf;rw[List.any_eq_false];intro i hi;rw[List.mem_range]at hi;cases ha:l[i]? with
 |none=>simp
 |some a=>
  intro h;simp only[Bool.and_eq_true]at h;have h2:=h.2;unfold atE at h2;simp only[Bool.and_eq_true,beq_iff_eq]at h2;obtain⟨h3,e1⟩:=List.getElem?_eq_some_iff.1 ha;obtain⟨h4,e2⟩:=List.getElem?_eq_some_iff.1 hx;have h5:=List.pairwise_iff_getElem.1 hU i k h3 h4 hi;rw[e1,e2]at h5;have h6:cmpE a x=0:=cmpE_zero.2 ⟨h2.1.1.symm,h2.1.2.symm,h2.2.symm⟩;omega
theorem takeOld_less {b:Bu}(hg:GoodB b)(low:Int)(k:Nat):Less b (takeOld (sortE b.all) low k b):=by
 rw[takeOld_eq hg.full];exact less_keep b _
theorem takeOld_at {b:Bu}(hg:GoodB b)(low:Int){k:Nat}{x:En}(hx:(sortE b.all)[k]?=some x):atS (takeOld (sortE b.all) low k b) x.key x.t x.s=0:=by
 refine at_of ((takeOld_less hg low k).good hg) (isE_of ?_);rw[takeOld_eq hg.full,siftB_all,keep_flat];refine List.mem_filter.2 ⟨(sortE_perm hg.alone).mem_iff.1 (List.mem_of_getElem? hx),?_⟩;rw[gone_self (sortE_up _) low hx];rfl
theorem takeOld_succ {b:Bu}{l:List En}{low:Int}{k:Nat}{x:En}(hx:l[k]?=some x):takeOld l low (k+1) b=if oldAt l low k=true then takeB (takeOld l low k b) x.key x.t x.s else takeOld l low k b:=by
 rw[takeOld];simp only[hx]
theorem oldAt_no {l:List En}{low:Int}{k:Nat}(h: ¬k+1<l.length):oldAt l low k=false:=by
 unfold oldAt;rw[List.getElem?_eq_none (l:=l) (i:=k+1) (by omega)];cases l[k]?<;>rfl
theorem oldAt_is {l:List En}{low:Int}{k:Nat}{x y:En}(hx:l[k]?=some x)(hy:l[k+1]?=some y):oldAt l low k=((y.key==x.key)&&decide (y.t≤low)):=by
 unfold oldAt;rw[hx,hy]
end Go.Proofs.YtjodlngbiikgfaaGreatDoor
namespace Go.Proofs.YtjodlngbiikgfaaGreatDoor
open Go.RowKit Go.Maps
theorem Blk.set5 {w:World}{g:Nat}{t:TypeId}{a b c d e:Value}(h:Blk w g t #[a,b,c,d,e])(u0 u1 u2 u3 u4:Value):Blk (((((w.setCell ⟨g,0,none⟩ u0).setCell ⟨g,1,none⟩ u1).setCell ⟨g,2,none⟩ u2).setCell ⟨g,3,none⟩ u3).setCell ⟨g,4,none⟩ u4) g t #[u0,u1,u2,u3,u4]:=((((h.set_ 0 u0).set_ 1 u1).set_ 2 u2).set_ 3 u3).set_ 4 u4
theorem below_set5 {n:Nat}{a w:World}(h:Below n a w){g:Nat}(hg:n≤g)(u0 u1 u2 u3 u4:Value):Below n a (((((w.setCell ⟨g,0,none⟩ u0).setCell ⟨g,1,none⟩ u1).setCell ⟨g,2,none⟩ u2).setCell ⟨g,3,none⟩ u3).setCell ⟨g,4,none⟩ u4):=((((h.setCell (p:=⟨g,0,none⟩) hg u0).setCell (p:=⟨g,1,none⟩) hg u1).setCell (p:=⟨g,2,none⟩) hg u2).setCell (p:=⟨g,3,none⟩) hg u3).setCell (p:=⟨g,4,none⟩) hg u4
theorem turned_set5 (w:World)(g:Nat)(u0 u1 u2 u3 u4:Value):Turned (fun k=>k=g) w (((((w.setCell ⟨g,0,none⟩ u0).setCell ⟨g,1,none⟩ u1).setCell ⟨g,2,none⟩ u2).setCell ⟨g,3,none⟩ u3).setCell ⟨g,4,none⟩ u4):=((((turned_set w ⟨g,0,none⟩ u0).trans (turned_set _ ⟨g,1,none⟩ u1)).trans (turned_set _ ⟨g,2,none⟩ u2)).trans (turned_set _ ⟨g,3,none⟩ u3)).trans (turned_set _ ⟨g,4,none⟩ u4)
def zEntJ:Ent:=⟨.slice none 0 0,⟨[],0,0,[],false⟩⟩
theorem snoc_of {α:Type}{l:List α}(h:l≠[]): ∃M x,l=M++[x]:=⟨l.dropLast,l.getLast h,(List.dropLast_concat_getLast h).symm⟩
set_option maxHeartbeats 4000000 in
set_option maxRecDepth 10000 in
theorem latest_any (b:Buf)(key:List UInt8)(t:Int)(w:World)(hb:b.ok w)(hf:b.fit)(hg:GoodB b.bu)(hm:Mx w):
 Calls Tryz.prog 251 #[b.agg,.string (str key),.int .i64 t] w fun e w'=> ∃x:Ent,e= .returned (.tuple #[x.agg,.bool (latestB b.bu key t).isSome])∧(∀m,latestB b.bu key t=some m→x.e=m)∧Sl w' x.v x.e.r.length (rowCells x.e.r)∧(∀k,x.v.ownBlock=some k→w.heap.size≤k)∧Below w.heap.size w w':=by
 obtain⟨Av,cv,hvb,-⟩:=id hb.mem.sl;obtain⟨Ar,cr,hvr,-⟩:=id hb.sl;have hlen:=scan_len hg key (-1099511627776) t;have hB:=below_trans (below_alloc w (.cells #[.int .i64 b.limit,.slice Av b.mem.length cv,.slice Ar b.runs.length cr] 29)) (below_alloc _ (.cells #[.string ⟨#[]⟩,.int .i64 0,.int .i64 0,.slice none 0 0,.bool false] 63))
 have HSC:Hid (Calls Tryz.prog 254 #[.agg #[.int .i64 b.limit,.slice Av b.mem.length cv,.slice Ar b.runs.length cr],.string (str key),.int .i64 (-1099511627776),.int .i64 t] ((w.alloc (.cells #[.int .i64 b.limit,.slice Av b.mem.length cv,.slice Ar b.runs.length cr] 29)).alloc (.cells #[.string ⟨#[]⟩,.int .i64 0,.int .i64 0,.slice none 0 0,.bool false] 63)) fun e w'=> ∃v l,e= .returned (.tuple #[v,.int .i64 0])∧OwnE w' (w.heap.size+1+1) v l∧ens l=scanL b.bu key (-1099511627776) t∧Below ((w.alloc (.cells #[.int .i64 b.limit,.slice Av b.mem.length cv,.slice Ar b.runs.length cr] 29)).alloc (.cells #[.string ⟨#[]⟩,.int .i64 0,.int .i64 0,.slice none 0 0,.bool false] 63)).heap.size ((w.alloc (.cells #[.int .i64 b.limit,.slice Av b.mem.length cv,.slice Ar b.runs.length cr] 29)).alloc (.cells #[.string ⟨#[]⟩,.int .i64 0,.int .i64 0,.slice none 0 0,.bool false] 63)) w'):=Lib.hid (by
  have h1:=scan_own b key (-1099511627776) t _ (hb.below hB) hf (hm.below hB);rw[check_zeroB.2 hg,if_pos rfl]at h1;unfold Buf.agg at h1;rw[hvb,hvr]at h1;refine h1.mono ?_;rintro e w' ⟨v,l,h2,h3,h4,h5⟩;rw[World.size_alloc,World.size_alloc]at h3;exact⟨v,l,h2,h3,h4,h5⟩)
 unfold latestB Buf.agg;rw[hvb,hvr];generalize scanL b.bu key (-1099511627776) t=L at hlen HSC⊢;have HK0:=Lib.hid (new_first w 29 #[.int .i64 b.limit,.slice Av b.mem.length cv,.slice Ar b.runs.length cr] (.cells #[.string ⟨#[]⟩,.int .i64 0,.int .i64 0,.slice none 0 0,.bool false] 63));have HK1:=Lib.hid (new_second w 63 #[.string ⟨#[]⟩,.int .i64 0,.int .i64 0,.slice none 0 0,.bool false] (.cells #[.int .i64 b.limit,.slice Av b.mem.length cv,.slice Ar b.runs.length cr] 29));have HB:=Lib.hid hB;have y0:=HK0.out.cellR 0 rfl;have y1:=HK0.out.cellR 1 rfl;have y2:=HK0.out.cellR 2 rfl;clear hb hf hm hvb hvr hg hB;go_enter Tryz.func251,Tryz.ntmps251
 go_wp2_with fail
 refine Calls.mono (by with_reducible exact HSC.out) ?_;rintro r w2 ⟨v,l,rfl,hOE,hens,hb2⟩;have HB2:=Lib.hid (below_trans HB.out hb2);have K2:=HK1.out.below hb2;obtain⟨A,cc,hv,h1,h2,-⟩:=Sl.of_own hOE.own;subst hens;clear y0 y1 y2 HSC;have f0:=K2.free 0;have f1:=K2.free 1;have f2:=K2.free 2;have f3:=K2.free 3;have f4:=K2.free 4;have r0:=K2.cellR 0 rfl;have r1:=K2.cellR 1 rfl;have r2:=K2.cellR 2 rfl;have r3:=K2.cellR 3 rfl;have r4:=K2.cellR 4 rfl;by_cases hl:l=[]
 ·subst hl
  subst hv;clear hOE hb2 hlen;go_wp2;have KZ:=K2.set5 (.string ⟨#[]⟩) (.int .i64 0) (.int .i64 0) (.slice none 0 0) (.bool false);have HKZ:=Lib.hid KZ;have HB9:=Lib.hid (below_set5 HB2.out (g:=w.heap.size+1) (by omega) (.string ⟨#[]⟩) (.int .i64 0) (.int .i64 0) (.slice none 0 0) (.bool false));have z0:=HKZ.out.cellR 0 rfl;have z1:=HKZ.out.cellR 1 rfl;have z2:=HKZ.out.cellR 2 rfl;have z3:=HKZ.out.cellR 3 rfl;have z4:=HKZ.out.cellR 4 rfl;refine bodyPost_ret (v:= .tuple #[.agg #[.string ⟨#[]⟩,.int .i64 0,.int .i64 0,.slice none 0 0,.bool false],.bool false]) (by simp[results,Tryz.results251,go_sem,z0,z1,z2,z3,z4]) rfl ?_;exact⟨zEntJ,rfl,fun m hm=>by simp[ens]at hm,Sl.nil_ _,fun k hk=>by simp[zEntJ,Value.ownBlock]at hk,HB9.out⟩
 ·obtain⟨M,x,rfl⟩:=snoc_of hl
  have hMx:(M++[x])[M.length]?=some x:=by simp
  have hsl:=Sl.of_own hOE.own;rw[hv]at hsl;obtain⟨bb,off,hA,hbl,hcs⟩:=ent_at hsl rfl hMx;have hrow:=hOE.rows x (by simp);have hfar:=hOE.far x (by simp);obtain⟨Ax,cx,hvx,-⟩:=id hrow;have hc:=hcs w2 (Below.refl _ w2);rw[hvx]at hc;obtain⟨c0,c1,c2,c3,c4⟩:=hc;have HR:=Lib.hid hrow;have HF:=Lib.hid hfar
  have hMl:M.length≤4096:=by
   have e1:(ens (M++[x])).length=(M++[x]).length:=List.length_map ..;rw[e1,List.length_append,List.length_cons]at hlen;omega
  have hln:(M++[x]).length=M.length+1:=by simp
  have HLT:=Lib.hid (show(ens (M++[x])).getLast?=some x.e by simp[ens]);rw[hln]at hv;generalize M.length=n at c0 c1 c2 c3 c4 hMl hv;subst hv;subst hA;have HVX:=Lib.hid hvx
  have HNE:Hid (∀k,x.v.ownBlock=some k→ ¬k=w.heap.size+1):=Lib.hid fun k hk e=>by
   have:=(HF.out k hk).1;omega
  clear hOE hb2 hlen hrow hfar hvx hsl hcs hMx;go_wp2;have KZ:=K2.set5 (.string (str x.e.key)) (.int .i64 x.e.t) (.int .i64 x.e.s) (.slice Ax x.e.r.length cx) (.bool x.e.met);have HKZ:=Lib.hid KZ;have HB9:=Lib.hid (below_set5 HB2.out (g:=w.heap.size+1) (by omega) (.string (str x.e.key)) (.int .i64 x.e.t) (.int .i64 x.e.s) (.slice Ax x.e.r.length cx) (.bool x.e.met));have HT:=Lib.hid (turned_set5 w2 (w.heap.size+1) (.string (str x.e.key)) (.int .i64 x.e.t) (.int .i64 x.e.s) (.slice Ax x.e.r.length cx) (.bool x.e.met));have z0:=HKZ.out.cellR 0 rfl;have z1:=HKZ.out.cellR 1 rfl;have z2:=HKZ.out.cellR 2 rfl;have z3:=HKZ.out.cellR 3 rfl;have z4:=HKZ.out.cellR 4 rfl;refine bodyPost_ret (v:= .tuple #[.agg #[.string (str x.e.key),.int .i64 x.e.t,.int .i64 x.e.s,.slice Ax x.e.r.length cx,.bool x.e.met],.bool true]) (by simp[results,Tryz.results251,go_sem,z0,z1,z2,z3,z4]) rfl ?_;refine⟨x,by rw[HLT.out];unfold Ent.agg;rw[HVX.out];rfl,fun m hm=>by rw[HLT.out]at hm;injection hm,sl_turned HR.out HT.out fun k hk=>HNE.out k hk,fun k hk=>by have:=(HF.out k hk).1;omega,HB9.out⟩
end Go.Proofs.YtjodlngbiikgfaaGreatDoor
namespace Go.Proofs.YtjodlngbiikgfaaGreatDoor
open Go.RowKit Go.Maps
open tm (fitsB fits_of)
theorem part_zero {w:World}{b:Nat}{t:TypeId}(h:Blk w b t #[])(ht:Tryz.prog.cellsOf t=0):(partAt ⟨b,0,none⟩ 0 0).run Tryz.prog w= .ok ⟨b,0,none⟩ w:=by
 unfold Blk at h;have hs:w.shape? b=some (t,0):=by simp[World.shape?,h]
 simp[partAt,byteOf,noView,viewAt,Go.shape,program,Sem.bind,Sem.run,bind,pure,hs,ht]
set_option maxHeartbeats 16000000 in
set_option maxRecDepth 10000 in
theorem tgoes_any (w0:World)(g:Nat)(p:Pl)(e:Evv)(lm rm:Int)(X:Wk)(w:World)(hI:WkI w g w0.heap.size p e lm rm X)(hW:WkB w0 w g)(hG:WkG X.s)(hp:p.ok w0)(hf:p.fit)(hz:checkP p=0)(hk:MarksOk X.s)(hr:noM≤X.s.lm∧noM≤X.s.rm)(hm:Mx w0):
 Calls Tryz.prog 250 #[.agg #[],.pointer (some ⟨g,0,none⟩)] w fun r w'=>r= .returned (.tuple #[])∧ ∃s':Jv,s'.jn=goneJ (dropJ p X.s.jn)∧WkI w' g w0.heap.size p e lm rm ⟨s',X.key,X.has,X.vo,X.m,X.met⟩∧Turned (fun k=>k=g) w w':=by
 have hB1:=below_alloc w (.cells #[] 159);have HI1:=Lib.hid (hI.below hB1);have HW1:=Lib.hid (hW.more hB1);have HT01:Hid (Turned (fun k=>k=g) w (w.alloc (.cells #[] 159))):=Lib.hid (turned_below hB1);have k1:=Blk.new w 159 #[];obtain⟨W1,hW1⟩: ∃V,w.alloc (.cells #[] 159)=V:=⟨_,rfl⟩;rw[hW1]at HI1 HW1 HT01 k1;have hpz:=part_zero k1 (by kernel_rfl);have HDR:=Lib.hid (jdrop_any w0 g p e lm rm X W1 HI1.out HW1.out hG hp hf hz hk hm);have HMW:=Lib.hid hm;have HGG:=Lib.hid hG;have HRR:=Lib.hid hr;clear hI hW hG hp hf hz hk hm hB1 hr k1;go_enter Tryz.func250,Tryz.ntmps250
 go_upto_region 1 with fail
 first|rw[hW1]|skip
 clear hW1
 go_wp2_with fail
 refine Calls.mono (by with_reducible exact HDR.out) ?_;rintro r W2 ⟨rfl,s2,hjn,hI2,ht2⟩;have HI2:=Lib.hid hI2;have HT12:Hid (Turned (fun k=>k=g) w W2):=Lib.hid (HT01.out.trans ht2);have HW2:=Lib.hid (HW1.out.turned HI1.out (turned_g ht2));have HJN:=Lib.hid hjn
 have HG2:Hid (WkG s2):=Lib.hid (by
  have hl:=less_dropJ p X.s.jn;rw[←hjn]at hl;exact⟨hl.1.good HGG.out.l,hl.2.good HGG.out.r,hl.1.fine HGG.out.fl,hl.2.fine HGG.out.fr⟩)
 have HRN2:Hid (noM≤s2.lm∧noM≤s2.rm):=Lib.hid (by
  have e1:s2.lm=X.s.lm:=congrArg Jn.lm hjn;have e2:s2.rm=X.s.rm:=congrArg Jn.rm hjn;rw[e1,e2];exact HRR.out)
 have HRN:=HRN2
 have HAL:Hid (∀V,Below W2.heap.size W2 V→Calls Tryz.prog 27 #[.agg #[.int .i64 s2.r.limit,s2.r.vm,s2.r.vr]] V fun r w'=> ∃v l,r= .returned (.tuple #[v,.int .i64 0])∧OwnE w' V.heap.size v l∧ens l=sortE s2.r.bu.all∧Below V.heap.size V w'):=Lib.hid (fun V h=>by
  have h1:=all_any s2.r V (HI2.out.r.ok.below h) (HG2.out.buf 2).2 (HMW.out.below (below_trans HW2.out.below h));rw[check_zeroB.2 HG2.out.r,if_pos rfl]at h1;exact h1)
 clear hjn hI2 ht2 HDR;have hd2:Below W2.heap.size W2 W2.drew:=(Below.refl _ W2).drew
 go_upto_region 2 with fail
 refine tr (S:=(fun w'=>w'.cell? ⟨g,19,none⟩=some (.int .i64 s2.lm)∧w'.cell? ⟨g,20,none⟩=some (.int .i64 s2.rm))) (And.intro ((HI2.out.below hd2).blk.cellR 19 rfl) ((HI2.out.below hd2).blk.cellR 20 rfl)) (fun hHeld=> ?_);refine tk 0 ?_;refine tk 1 ?_;refine tk 2 ?_;refine tk 3 ?_;refine tk 4 ?_;refine tk 5 ?_;refine tk 6 ?_;refine tk 7 ?_;refine tk 8 ?_;refine tk 9 ?_;refine tc 10 ?_;intro K hK;go_simp;refine hK.out _ _ (And.intro ((HI2.out.below hd2).blk.cellR 19 rfl) ((HI2.out.below hd2).blk.cellR 20 rfl)) (fun hHeld10=> ?_);clear hK K;refine tk 11 ?_;refine td ?_;by_cases hno:(min s2.lm s2.rm)=noM
 ·have nbm:((min s2.lm s2.rm)== -1099511627777)=true:=by rw[hno];decide
  have NNO:=Lib.hid hno;clear hno;go_wp2
  first|go_end0|((try simp only[Exit.inBlock,Exit.then]);refine bodyPost_ret (results_none rfl _ _ _) rfl ?_)
  refine⟨rfl,s2,?_,HI2.out.below hd2,HT12.out.trans (turned_below hd2)⟩;rw[HJN.out];exact(if_neg (fun h=>by have h1:=NNO.out;have h2:s2.lm≠noM:=fun e0=>h.1 ((show s2.lm=(dropJ p X.s.jn).lm from congrArg Jn.lm HJN.out)▸e0);have h3:s2.rm≠noM:=fun e0=>h.2 ((show s2.rm=(dropJ p X.s.jn).rm from congrArg Jn.rm HJN.out)▸e0);omega)).symm
 ·have nbm:((min s2.lm s2.rm)== -1099511627777)=false:=by simpa[noM]using hno
  have NNO:Hid (¬(min s2.lm s2.rm)=noM):=Lib.hid hno;clear hno;have z16:=(HI2.out.below hd2).blk.cellR 16 rfl;have z17:=(HI2.out.below hd2).blk.cellR 17 rfl;have z18:=(HI2.out.below hd2).blk.cellR 18 rfl
  go_wp2_with fail
  refine Calls.mono (by with_reducible exact HAL.out _ hd2) ?_;rintro r W4 ⟨v,l,rfl,hOE,hens,hb4⟩;obtain⟨Av,nv,cv,hv,hnv⟩:=own_sliceN hOE.own;subst hv;subst hnv;have hy4:=below_trans hd2 hb4;have HI4:=Lib.hid (HI2.out.below hy4);have HT24:Hid (Turned (fun k=>k=g) W2 W4):=Lib.hid (turned_below hy4);have HMX:Hid (∀V,Turned (fun k=>k=g) W4 V→Mx V):=Lib.hid (fun V h=>HMW.out.below (below_turned (below_trans HW2.out.below hy4) h (fun k hk=>by rw[hk];exact HW2.out.far)));have HENS:=Lib.hid hens;have hll:l.length≤4096:=by rw[←ens_len l,hens,(sortE_perm HG2.out.r.alone).length_eq];exact HG2.out.r.few
  have HOE:Hid (∀V,Turned (fun k=>k=g) W4 V→OwnE V W2.heap.size (.slice Av l.length cv) l):=Lib.hid (fun V h=>(hOE.low hd2.size).turned h (fun k hk hf=>by
   have h1:=((hOE.low hd2.size).range hk).1;have h2:=HI2.out.blk.lt;omega))
  obtain⟨bb,off,hAv⟩: ∃bb off,l≠[]→Av=some ⟨bb,off,none⟩:=by
   cases l with
   |nil=>exact⟨0,0,fun h=>absurd rfl h⟩
   |cons y l=>
    obtain⟨bb,off,hA,-⟩:=ent_at (k:=0) (x:=y) (Sl.of_own hOE.own) rfl rfl;exact⟨bb,off,fun _=>hA⟩
  have HENT:Hid (∀k x,l[k]?=some x→ ∀V,Turned (fun k=>k=g) W4 V→V.cell? ⟨bb,off+k*5,none⟩=some (.string (str x.e.key))∧V.cell? ⟨bb,off+k*5+1,none⟩=some (.int .i64 x.e.t)∧V.cell? ⟨bb,off+k*5+2,none⟩=some (.int .i64 x.e.s)):=Lib.hid (fun k x hx V h=>by
   obtain⟨b2,o2,hA,-,hcs⟩:=ent_at (Sl.of_own (HOE.out V h).own) rfl hx;have h0:=hAv (by intro e0;rw[e0]at hx;simp at hx);rw[h0]at hA;injection hA with hA;injection hA with e1 e2;subst e1 e2;obtain⟨c0,c1,c2,-⟩:=hcs V (Below.refl _ V);exact⟨c0,c1,c2⟩)
  have HAV:Hid (l≠[]→Av=some ⟨bb,off,none⟩):=Lib.hid hAv;clear hOE hens hb4 hy4 hd2 z16 z17 z18 hAv
  go_wp2_with fail
  go_loopw[7,36] (fun _ iv wr=> ∃(k:Nat) (b:Buf),k≤l.length∧iv= .int .i64 k∧Hid (WkI wr g w0.heap.size p e lm rm ⟨s2.put 2 b,X.key,X.has,X.vo,X.m,X.met⟩)∧Hid (b.bu=takeOld (sortE s2.r.bu.all) (min s2.lm s2.rm) k s2.r.bu)∧Hid (Turned (fun k=>k=g) W4 wr)) (fun _ iv _=>l.length-(intOf iv).toNat)
  case atStart=>exact⟨0,s2.r,by omega,rfl,Lib.hid (by rw[show s2.put 2 s2.r=s2 from Jv.put_same s2 2];exact HI4.out),Lib.hid rfl,Lib.hid (Turned.refl _ _)⟩
  case round=>
   rename World=>wr
   obtain⟨k,b,hk,rfl,HI3,HBB,HT3⟩:=hrel;have HLB:Hid (Less s2.r.bu b.bu):=Lib.hid (by rw[HBB.out];exact takeOld_less HG2.out.r (min s2.lm s2.rm) k);have HGB:Hid (GoodB b.bu∧b.fit):=Lib.hid ⟨HLB.out.good HG2.out.r,goodFitJ (HLB.out.good HG2.out.r) (HLB.out.fine HG2.out.fr)⟩;by_cases hlt:k<l.length
   ·have hAV:=HAV.out (by intro e0;rw[e0]at hlt;simp at hlt)
    subst hAV;have hx:=List.getElem?_eq_getElem (l:=l) hlt;generalize l[k]=x at hx;have HXE:=Lib.hid (ens_at hx);have HLC:Hid (∀V,Turned (fun k=>k=g) W4 V→V.cell? ⟨bb,off+k*5,none⟩=some (.string (str x.e.key))∧V.cell? ⟨bb,off+k*5+1,none⟩=some (.int .i64 x.e.t)∧V.cell? ⟨bb,off+k*5+2,none⟩=some (.int .i64 x.e.s)):=Lib.hid (fun V h=>HENT.out k x hx V h);have hd6:Below wr.heap.size wr wr.drew:=(Below.refl _ wr).drew
    have HAT:Hid (atS b.bu x.e.key x.e.t x.e.s=0):=Lib.hid (by
     rw[HBB.out];exact takeOld_at HG2.out.r (min s2.lm s2.rm) (by rw[←HENS.out];exact HXE.out))
    have HTK:Hid (∀V,Below wr.heap.size wr V→Calls Tryz.prog 256 #[.agg #[.int .i64 b.limit,b.vm,b.vr],.string (str x.e.key),.int .i64 x.e.t,.int .i64 x.e.s] V fun e w'=> ∃b':Buf,e= .returned (.tuple #[.agg #[.int .i64 b'.limit,b'.vm,b'.vr],.int .i64 0])∧OwnBuf w' V.heap.size b'∧b'.bu=takeB b.bu x.e.key x.e.t x.e.s∧Below V.heap.size V w'):=Lib.hid (fun V h=>by
     have h1:=take_anyB b x.e.key x.e.t x.e.s V (HI3.out.r.ok.below h) HGB.out.2 (HMX.out V (HT3.out.trans (turned_below h)));rw[HAT.out,if_pos rfl]at h1;exact h1)
    have k0:(0:Int)≤(k:Int):=by omega
    have k1:(k:Int)<(l.length:Int):=by omega
    have hwk:IntKind.i64.wrap ((k:Int)+1)=(k:Int)+1:=by rw[IntKind.wrap_i64];omega
    by_cases hnx:k+1<l.length
    ·have hy:=List.getElem?_eq_getElem (l:=l) hnx
     generalize l[k+1]=y at hy;have HYE:=Lib.hid (ens_at hy);have HOLD:Hid (oldAt (ens l) (min s2.lm s2.rm) k=((y.e.key==x.e.key)&&decide (y.e.t≤(min s2.lm s2.rm)))):=Lib.hid (oldAt_is HXE.out HYE.out);obtain⟨c0,c1,c2⟩:=HENT.out (k+1) y hy wr HT3.out;obtain⟨d0,d1,d2⟩:=HLC.out wr HT3.out;have n1:(k:Int)+1<(l.length:Int):=by omega
     have n0:(0:Int)≤(k:Int)+1:=by omega
     have nb:decide ((k:Int)+1<(l.length:Int))=true:=decide_eq_true n1;clear hx hy;by_cases hkey:y.e.key=x.e.key
     ·have kb:((str y.e.key).toList==(str x.e.key).toList)=true:=by rw[hkey];exact beq_self_eq_true _
      by_cases htl:y.e.t≤(min s2.lm s2.rm)
      ·have tb:decide (y.e.t≤(min s2.lm s2.rm))=true:=decide_eq_true htl
       have HOT:Hid (oldAt (ens l) (min s2.lm s2.rm) k=true):=Lib.hid (by rw[HOLD.out,hkey,tb];simp)
       go_upto_region 8 with fail
       go_quiet (fail)
       obtain⟨WQ,hWQ⟩: ∃V,wr.drewN nq=V:=⟨_,rfl⟩;have HI3':=HI3;have HT3':=HT3;have HTK':=HTK;clear HI3 HT3 HTK hd6;have HBQ:Hid (Below wr.heap.size wr WQ):=Lib.hid (by rw[←hWQ];exact below_drewN (Below.refl _ wr) nq)
       first|rw[hWQ]|skip
       clear hWQ c0 c1 c2 d0 d1 d2;have HI3:=Lib.hid (HI3'.out.below HBQ.out);have HT3:Hid (Turned (fun k=>k=g) W4 WQ):=Lib.hid (HT3'.out.trans (turned_below HBQ.out));have HTK:=Lib.hid (fun V (h:Below WQ.heap.size WQ V)=>HTK'.out V (below_trans HBQ.out h));clear HI3' HT3' HTK';have hd6:Below WQ.heap.size WQ WQ.drew:=(Below.refl _ WQ).drew;have HTD:Hid (Turned (fun k=>k=g) W4 WQ.drew):=Lib.hid (HT3.out.trans (turned_below hd6))
       go_upto_region 9 with fail
       refine tr (S:=(fun w'=>w'.cell? ⟨bb,off+k*5,none⟩=some (.string (str x.e.key))∧w'.cell? ⟨bb,off+k*5+1,none⟩=some (.int .i64 x.e.t)∧w'.cell? ⟨bb,off+k*5+2,none⟩=some (.int .i64 x.e.s))) (And.intro ((HLC.out _ HTD.out).1) (And.intro ((HLC.out _ HTD.out).2.1) ((HLC.out _ HTD.out).2.2))) (fun hHeld=> ?_);refine tk 0 ?_;refine tk 1 ?_;refine tk 2 ?_;refine tk 3 ?_;refine tk 4 ?_;refine tk 6 ?_;refine tk 7 ?_;refine tk 8 ?_;refine tk 9 ?_;refine tk 10 ?_;refine tk 11 ?_;refine tk 12 ?_;refine tk 13 ?_;refine tk 14 ?_;refine tk 15 ?_;refine tk 16 ?_;refine tk 17 ?_;refine tk 18 ?_;refine tk 19 ?_;refine tk 20 ?_;refine tc 5 ?_;intro K hK;have b0:WQ.drew.cell? ⟨g,16,none⟩=some (.int .i64 b.limit):=(HI3.out.below hd6).blk.cellR 16 rfl;have b1:WQ.drew.cell? ⟨g,17,none⟩=some b.vm:=(HI3.out.below hd6).blk.cellR 17 rfl;have b2:WQ.drew.cell? ⟨g,18,none⟩=some b.vr:=(HI3.out.below hd6).blk.cellR 18 rfl;go_simp;clear b0 b1 b2;refine hK.out _ _ (And.intro ((HLC.out _ HTD.out).1) (And.intro ((HLC.out _ HTD.out).2.1) ((HLC.out _ HTD.out).2.2))) (fun hHeld5=> ?_);clear hK K;refine tc 21 ?_;intro K hK;go_simp;refine Calls.mono (by with_reducible exact HTK.out _ hd6) ?_;rintro r x5 ⟨⟨lim,vm,mem,vr,runs⟩,rfl,hOB,hbu,hb5⟩;have hd5:=below_trans hd6 hb5;obtain⟨Am,nm,cm,hvm⟩:=own_slice hOB.mem.own;obtain⟨Ar,nr,cr,hvr⟩:=own_slice hOB.sl;simp only at hvm hvr;subst hvm hvr;have HBU:=Lib.hid hbu;have hIx:=HI3.out.below hd5;have hb1:=hOB.low (base':=w0.heap.size) (Nat.le_trans HI3.out.size hd6.size);have hb2: ∀k,wkF g X.vo k→Buf.off ⟨lim,.slice Am nm cm,mem,.slice Ar nr cr,runs⟩ k:=fun k hk=>OwnBuf.off' (X:=⟨s2.put 2 b,X.key,X.has,X.vo,X.m,X.met⟩) hOB hk HI3.out hd6.size;have HPB:=Lib.hid (hIx.putR hb1 hb2);clear hb1 hb2;have HT5:Hid (Turned (fun k=>k=g) W4 x5):=Lib.hid (HT3.out.trans (turned_below hd5));have HT9:Hid (Turned (fun k=>k=g) W4 (((x5.setCell ⟨g,16,none⟩ (.int .i64 lim)).setCell ⟨g,17,none⟩ (.slice Am nm cm)).setCell ⟨g,18,none⟩ (.slice Ar nr cr))):=Lib.hid (HT5.out.trans (((turned_set x5 ⟨g,16,none⟩ (.int .i64 lim)).trans (turned_set _ ⟨g,17,none⟩ (.slice Am nm cm))).trans (turned_set _ ⟨g,18,none⟩ (.slice Ar nr cr))));have HFR:=Lib.hid hIx.blk;clear hb5 hOB hbu hIx
       go_wp2_with fail
       refine hK.out _ _ (And.intro ((HLC.out _ HT5.out).1) (And.intro ((HLC.out _ HT5.out).2.1) ((HLC.out _ HT5.out).2.2))) (fun hHeld21=> ?_);clear hK K;refine tk 22 ?_;refine tk 23 ?_;refine tk 24 ?_;refine tk 25 ?_;refine tk 26 ?_;refine tk 27 ?_;refine tc 28 ?_;intro K hK;have q0:=HFR.out.free 16;have q1:=HFR.out.free 17;have q2:=HFR.out.free 18;have b0:=HFR.out.cellR 16 rfl;have b1:=HFR.out.cellR 17 rfl;have b2:=HFR.out.cellR 18 rfl;go_simp;clear b0 b1 b2 q0 q1 q2;refine hK.out _ _ (And.intro ((HLC.out _ HT9.out).1) (And.intro ((HLC.out _ HT9.out).2.1) ((HLC.out _ HT9.out).2.2))) (fun hHeld28=> ?_);clear hK K;refine td ?_
       have HB9:Hid ((⟨lim,.slice Am nm cm,mem,.slice Ar nr cr,runs⟩:Buf).bu=takeOld (sortE s2.r.bu.all) (min s2.lm s2.rm) (k+1) s2.r.bu):=Lib.hid (by
        rw[HBU.out,HBB.out,takeOld_succ (x:=x.e) (by rw[←HENS.out];exact HXE.out),if_pos (by rw[←HENS.out];exact HOT.out)])
       have HI9:=Lib.hid (by have h:=HPB.out;rw[Jv.put_twice]at h;exact h);go_wp2;go_roundw
       case rel=>
        first
         |exact⟨k+1,_,by omega,by go_num,HI9,HB9,HT9⟩
         |((repeat apply Exists.intro);exact⟨⟨k+1,_,by omega,by go_num,HI9,HB9,HT9⟩,rfl⟩)
       case measure=>simp[intOf];omega
      ·have tb:decide (y.e.t≤(min s2.lm s2.rm))=false:=decide_eq_false htl
       have HOT:Hid (oldAt (ens l) (min s2.lm s2.rm) k=false):=Lib.hid (by rw[HOLD.out,tb];simp)
       go_upto_region 8 with fail
       go_quiet (fail)
       have HB9:Hid (b.bu=takeOld (sortE s2.r.bu.all) (min s2.lm s2.rm) (k+1) s2.r.bu):=Lib.hid (by
        rw[HBB.out,takeOld_succ (x:=x.e) (by rw[←HENS.out];exact HXE.out),if_neg (by rw[←HENS.out,HOT.out];decide)])
       have HI9:=Lib.hid (HI3.out.drewN nq);have HT9:Hid (Turned (fun k=>k=g) W4 (wr.drewN nq)):=Lib.hid (turned_drewN HT3.out nq);go_wp2;go_roundw
       case rel=>
        first
         |exact⟨k+1,b,by omega,by go_num,HI9,HB9,HT9⟩
         |((repeat apply Exists.intro);exact⟨⟨k+1,b,by omega,by go_num,HI9,HB9,HT9⟩,rfl⟩)
       case measure=>simp[intOf];omega
     ·have kb:((str y.e.key).toList==(str x.e.key).toList)=false:=by rw[str_toList,str_toList];simpa using hkey
      have HOT:Hid (oldAt (ens l) (min s2.lm s2.rm) k=false):=Lib.hid (by rw[HOLD.out];simp[hkey])
      go_upto_region 8 with fail
      go_quiet (fail)
      have HB9:Hid (b.bu=takeOld (sortE s2.r.bu.all) (min s2.lm s2.rm) (k+1) s2.r.bu):=Lib.hid (by
       rw[HBB.out,takeOld_succ (x:=x.e) (by rw[←HENS.out];exact HXE.out),if_neg (by rw[←HENS.out,HOT.out];decide)])
      have HI9:=Lib.hid (HI3.out.drewN nq);have HT9:Hid (Turned (fun k=>k=g) W4 (wr.drewN nq)):=Lib.hid (turned_drewN HT3.out nq);go_wp2;go_roundw
      case rel=>
       first
        |exact⟨k+1,b,by omega,by go_num,HI9,HB9,HT9⟩
        |((repeat apply Exists.intro);exact⟨⟨k+1,b,by omega,by go_num,HI9,HB9,HT9⟩,rfl⟩)
      case measure=>simp[intOf];omega
    ·have HOT:Hid (oldAt (ens l) (min s2.lm s2.rm) k=false):=Lib.hid (oldAt_no (by rw[ens_len];exact hnx))
     have n1: ¬(k:Int)+1<(l.length:Int):=by omega
     have nb:decide ((k:Int)+1<(l.length:Int))=false:=decide_eq_false n1;clear hx
     go_upto_region 8 with fail
     go_quiet (fail)
     have HB9:Hid (b.bu=takeOld (sortE s2.r.bu.all) (min s2.lm s2.rm) (k+1) s2.r.bu):=Lib.hid (by
      rw[HBB.out,takeOld_succ (x:=x.e) (by rw[←HENS.out];exact HXE.out),if_neg (by rw[←HENS.out,HOT.out];decide)])
     have HI9:=Lib.hid (HI3.out.drewN nq);have HT9:Hid (Turned (fun k=>k=g) W4 (wr.drewN nq)):=Lib.hid (turned_drewN HT3.out nq);go_wp2;go_roundw
     case rel=>
      first
       |exact⟨k+1,b,by omega,by go_num,HI9,HB9,HT9⟩
       |((repeat apply Exists.intro);exact⟨⟨k+1,b,by omega,by go_num,HI9,HB9,HT9⟩,rfl⟩)
     case measure=>simp[intOf];omega
   ·obtain rfl:k=l.length:=by omega
    have hge: ¬(l.length:Int)<(l.length:Int):=by omega
    go_wp2
    first|go_end0|((try simp only[Exit.inBlock,Exit.then]);refine bodyPost_ret (results_none rfl _ _ _) rfl ?_)
    refine⟨rfl,s2.put 2 b,?_,HI3.out,HT12.out.trans (HT24.out.trans HT3.out)⟩;rw[←HJN.out];refine Eq.trans ?_ (if_pos ⟨by intro e0;have e1:s2.lm=noM:=e0;have h3:=HRN2.out;apply NNO.out;omega,by intro e0;have e1:s2.rm=noM:=e0;have h3:=HRN2.out;apply NNO.out;omega⟩).symm;rw[Jv.put_jn];show(⟨s2.l.bu,b.bu,s2.lm,s2.rm,s2.seq⟩:Jn)=⟨s2.l.bu,siftB s2.r.bu (keepF fun e=> !oldE (sortE s2.r.bu.all) (min s2.lm s2.rm) e),s2.lm,s2.rm,s2.seq⟩;rw[HBB.out,show min s2.lm s2.rm=(min s2.lm s2.rm)from rfl,show l.length=(sortE s2.r.bu.all).length from by rw[←HENS.out,ens_len],←HENS.out];rw[HENS.out];rw[takeOld_all HG2.out.r]
set_option maxHeartbeats 2000000 in
set_option maxRecDepth 10000 in
theorem sgoes_any (w0:World)(g:Nat)(p:Pl)(e:Evv)(lm rm:Int)(X:Wk)(w:World)(hI:WkI w g w0.heap.size p e lm rm X)(hW:WkB w0 w g)(hG:WkG X.s)(hp:p.ok w0)(hf:p.fit)(hz:checkP p=0)(hk:MarksOk X.s)(hm:Mx w0):
 Calls Tryz.prog 263 #[.agg #[],.pointer (some ⟨g,0,none⟩)] w fun r w'=>r= .returned (.tuple #[])∧ ∃s':Jv,s'.jn=dropJ p X.s.jn∧WkI w' g w0.heap.size p e lm rm ⟨s',X.key,X.has,X.vo,X.m,X.met⟩∧Turned (fun k=>k=g) w w':=by
 have hB1:=below_alloc w (.cells #[] 160);have HI1:=Lib.hid (hI.below hB1);have HW1:=Lib.hid (hW.more hB1);have HT01:Hid (Turned (fun k=>k=g) w (w.alloc (.cells #[] 160))):=Lib.hid (turned_below hB1);have k1:=Blk.new w 160 #[];obtain⟨W1,hW1⟩: ∃V,w.alloc (.cells #[] 160)=V:=⟨_,rfl⟩;rw[hW1]at HI1 HW1 HT01 k1;have hpz:=part_zero k1 (by kernel_rfl);have HDR:=Lib.hid (jdrop_any w0 g p e lm rm X W1 HI1.out HW1.out hG hp hf hz hk hm);clear hI hW hG hp hf hz hk hm hB1 k1;go_enter Tryz.func263,Tryz.ntmps263
 go_upto_region 1 with fail
 first|rw[hW1]|skip
 clear hW1
 go_wp2_with fail
 refine Calls.mono (by with_reducible exact HDR.out) ?_;rintro r W2 ⟨rfl,s2,hjn,hI2,ht2⟩;have HI2:=Lib.hid hI2;have HJN:=Lib.hid hjn;have HT12:Hid (Turned (fun k=>k=g) w W2):=Lib.hid (HT01.out.trans ht2);clear hI2 hjn ht2 HDR;go_wp2
 first|go_end0|((try simp only[Exit.inBlock,Exit.then]);refine bodyPost_ret (results_none rfl _ _ _) rfl ?_)
 exact⟨rfl,s2,HJN.out,HI2.out,HT12.out⟩
end Go.Proofs.YtjodlngbiikgfaaGreatDoor
namespace Go.Proofs.YtjodlngbiikgfaaGreatDoor
open Go.RowKit Go.Maps
open tm (fitsB fits_of)
def Jv.next (s:Jv):Jv:=⟨s.l,s.r,s.lm,s.rm,s.seq+1⟩
set_option maxHeartbeats 4000000 in
set_option maxRecDepth 10000 in
theorem jput_any (w0:World)(g:Nat)(p:Pl)(e:Evv)(lm rm:Int)(X:Wk)(w:World)(hI:WkI w g w0.heap.size p e lm rm X)(hW:WkB w0 w g)(hG:WkG X.s)(hp:p.ok w0)(hf:p.fit)(hz:checkP p=0)(he:e.ok w0)(hs:e.side=1∨e.side=2)
 (hkm:(if e.side=2 then lm else rm)≠noM→fitsB (if e.side=2 then lm else rm)=true) (hsq:0≤X.s.seq∧X.s.seq≤1099511627776) (hm:Mx w0)
 (hpe:X.has=true→putE (X.s.buf e.side).bu ⟨X.key.toList,e.t,X.s.seq,e.r,X.met⟩=0∧FineE ⟨X.key.toList,e.t,X.s.seq,e.r,X.met⟩):
 Calls Tryz.prog 55 #[.pointer (some ⟨g,0,none⟩)] w fun r w'=>r= .returned (.tuple #[])∧ ∃s':Jv,
  s'.jn=(if X.has=false∨((if e.side=2 then lm else rm)≠noM∧e.t≤goneF p e.side (if e.side=2 then lm else rm))then X.s.next.jn else X.s.next.jn.put e.side (putB (X.s.buf e.side).bu ⟨X.key.toList,e.t,X.s.seq,e.r,X.met⟩))∧
  WkI w' g w0.heap.size p e lm rm ⟨s',X.key,X.has,X.vo,X.m,X.met⟩∧Turned (fun k=>k=g) w w':=by
 have hos:ownS e.side=e.side:=by unfold ownS;rcases hs with h|h<;>rw[h]<;>rfl
 obtain⟨Ae,ce,hve,-⟩:=id he.row;have HVE:=Lib.hid hve;have hc21:=hI.blk.cellR 21 rfl;have hf21:=hI.blk.free 21;have hwr:wrap64 (X.s.seq+1)=X.s.seq+1:=by unfold wrap64;omega
 have hI2:=hI.set (Y:=⟨X.s.next,X.key,X.has,X.vo,X.m,X.met⟩) 21 (.int .i64 (X.s.seq+1)) rfl rfl rfl rfl rfl;have hT2:=turned_set w ⟨g,21,none⟩ (.int .i64 (X.s.seq+1));have hW2:=hW.turned hI (hT2.imp fun k _ e=> .inl e);obtain⟨W2,hWW⟩: ∃V,w.setCell ⟨g,21,none⟩ (.int .i64 (X.s.seq+1))=V:=⟨_,rfl⟩;rw[hWW]at hI2 hT2 hW2;have HI2:=Lib.hid hI2;have HT2:Hid (Turned (fun k=>k=g) w W2):=Lib.hid hT2;have HK2:=Lib.hid hI2.blk;have HB2:=Lib.hid hW2.below;have HPO:=Lib.hid hp;have HPF:=Lib.hid hf;have HMX:=Lib.hid hm;have HEO:=Lib.hid he;have HG:=Lib.hid hG;have HPE:=Lib.hid hpe;have h28: ∀W,Below W2.heap.size W2 W→W.cell? ⟨g,28,none⟩=some (.int .i64 (ownS e.side)):=fun W h=>(HI2.out.below h).blk.cellR 28 rfl;have h29: ∀W,Below W2.heap.size W2 W→W.cell? ⟨g,29,none⟩=some (bufA g (ownS e.side)):=fun W h=>(HI2.out.below h).blk.cellR 29 rfl;have h25: ∀W,Below W2.heap.size W2 W→W.cell? ⟨g,25,none⟩=some e.v:=fun W h=>(HI2.out.below h).blk.cellR 25 rfl;rw[hve]at h25;have HS25:=Lib.hid h25;have h35: ∀W,Below W2.heap.size W2 W→W.cell? ⟨g,35,none⟩=some (.int .i64 (if e.side=2 then lm else rm)):=fun W h=>(HI2.out.below h).blk.cellR 35 rfl;have H0: ∀W,Below W2.heap.size W2 W→W.cell? ⟨g,bufO e.side,none⟩=some (.int .i64 (X.s.next.buf e.side).limit)∧W.cell? ⟨g,bufO e.side+1,none⟩=some (X.s.next.buf e.side).vm∧W.cell? ⟨g,bufO e.side+2,none⟩=some (X.s.next.buf e.side).vr:=fun W h=>(HI2.out.below h).bufCells hs;have HPUT:Hid (∀W (b:Buf),WkI W g w0.heap.size p e lm rm ⟨X.s.next,X.key,X.has,X.vo,X.m,X.met⟩→OwnBuf W w0.heap.size b→(∀k,wkF g X.vo k→b.off k)→WkI (((W.setCell ⟨g,bufO e.side,none⟩ (.int .i64 b.limit)).setCell ⟨g,bufO e.side+1,none⟩ b.vm).setCell ⟨g,bufO e.side+2,none⟩ b.vr) g w0.heap.size p e lm rm ⟨X.s.next.put e.side b,X.key,X.has,X.vo,X.m,X.met⟩):=Lib.hid fun W b h1 h2 h3=>h1.putB hs h2 h3;have hnb:X.s.next.buf e.side=X.s.buf e.side:=by unfold Jv.buf Jv.next;rfl
 rw[hnb]at H0;have hok:=(HI2.out.buf e.side).1.ok;rw[hnb]at hok;have hgb:=hG.buf e.side;obtain⟨fm,hfm⟩: ∃q,(if e.side=2 then lm else rm)=q:=⟨_,rfl⟩;rw[hfm]at h35 hkm⊢;have HS35:=Lib.hid h35;rw[hos]at h28 h29;rw[bufA_is]at h29;obtain⟨o,ho⟩: ∃o,bufO e.side=o:=⟨_,rfl⟩;rw[ho]at h29 H0 HPUT;have HOE:=Lib.hid ho;have HFE:=Lib.hid hos;have HS29:=Lib.hid h29;have HBC:=Lib.hid H0;obtain⟨F,hFF⟩: ∃q,e.side=q:=⟨_,rfl⟩;have HS28:Hid (∀W,Below W2.heap.size W2 W→W.cell? ⟨g,28,none⟩=some (.int .i64 F)):=Lib.hid (by rw[←hFF];exact h28);have hF2:F=1∨F=2:=by rw[←hFF];exact hs
 have HGN:Hid (fm≠noM→ ∀V,Below W2.heap.size W2 V→Calls Tryz.prog 60 #[.agg #[.int .i64 p.kind,.int .i64 p.mode,.int .i64 p.low,.int .i64 p.high,.int .i64 p.size,.int .i64 p.limit,p.vl,p.vr,p.vk,p.vq,.bool p.grouped,p.vg,p.va],.int .i64 F,.int .i64 fm] V fun e w'=>e= .returned (.tuple #[.int .i64 (goneF p F fm),.int .i64 0])∧Below V.heap.size V w'):=Lib.hid (fun hn V h=>by
  have h1:=gone_any p F fm V (HPO.out.below (below_trans HB2.out h)) HPF.out;rw[gone_is hz hF2 (hkm hn)]at h1;exact h1)
 have HPT0:Hid (X.has=true→ ∀V,Below W2.heap.size W2 V→Calls Tryz.prog 95 #[.agg #[.int .i64 (X.s.buf e.side).limit,(X.s.buf e.side).vm,(X.s.buf e.side).vr],.agg #[.string X.key,.int .i64 e.t,.int .i64 X.s.seq,.slice Ae e.r.length ce,.bool X.met]] V fun r w'=> ∃b':Buf,r= .returned (.tuple #[.agg #[.int .i64 b'.limit,b'.vm,b'.vr],.int .i64 0])∧OwnBuf w' V.heap.size b'∧b'.bu=putB (X.s.buf e.side).bu ⟨X.key.toList,e.t,X.s.seq,e.r,X.met⟩∧Below V.heap.size V w'):=Lib.hid (fun hh V h=>by
  have hq:=HPE.out hh;have h1:=put_any (X.s.buf e.side) ⟨e.v,⟨X.key.toList,e.t,X.s.seq,e.r,X.met⟩⟩ V (hok.below h) hgb.2 (HEO.out.row.below (below_trans HB2.out h)) hq.2 (HMX.out.below (below_trans HB2.out h))
  have h2:putS (X.s.buf e.side).bu ⟨X.key.toList,e.t,X.s.seq,e.r,X.met⟩=(putB (X.s.buf e.side).bu ⟨X.key.toList,e.t,X.s.seq,e.r,X.met⟩,0):=by
   unfold putS;rw[check_zeroB.2 hgb.1,hq.1,if_neg (fun h=>h rfl),if_neg (fun h=>h rfl)]
  rw[h2]at h1;unfold Ent.agg at h1;simp only[str_of]at h1;rw[HVE.out]at h1;exact h1)
 have HFF:=Lib.hid hFF;rw[hFF];have hd0:Below W2.heap.size W2 W2.drew:=(Below.refl _ W2).drew;have hc27:=HI2.out.blk.cellR 27 rfl;have hc35:=HS35.out W2 (Below.refl _ W2);clear hok hgb hI hG hm hp hf he hve hI2 hT2 hW hW2 h28 h29 h25 h35 H0 hos hz hkm hpe hFF hs hfm ho hnb;obtain⟨SX,hSX⟩: ∃q,(if X.has=false∨(fm≠noM∧e.t≤goneF p F fm)then X.s.next.jn else X.s.next.jn.put F (putB (X.s.buf F).bu ⟨X.key.toList,e.t,X.s.seq,e.r,X.met⟩))=q:=⟨_,rfl⟩;rw[hSX];have HSX:=Lib.hid hSX;clear hSX;obtain⟨hasQ,hhas⟩: ∃q,X.has=q:=⟨_,rfl⟩;rw[hhas]at hc27 HPT0 HSX⊢;cases hasQ
 ·go_enter Tryz.func55,Tryz.ntmps55
  go_upto_region 2 with fail
  first|rw[hwr,hWW]|rw[hwr]|rw[hWW]|skip
  clear hWW;go_wp2
  first|go_end0|((try simp only[Exit.inBlock,Exit.then]);refine bodyPost_ret (results_none rfl _ _ _) rfl ?_)
  exact⟨rfl,X.s.next,by rw[←HSX.out];simp,by have h:=HI2.out;rw[hhas]at h;exact h,HT2.out⟩
 ·have HPT:=Lib.hid (HPT0.out rfl)
  clear HPT0;by_cases hfn:fm=noM
  ·have hbm:(fm != -1099511627777)=false:=by rw[hfn];decide
   have NFN:=Lib.hid hfn;clear hfn;have HNC:Hid (¬(true=false∨(fm≠noM∧e.t≤goneF p F fm))):=Lib.hid (by rintro(h|h);exact absurd h (by decide);exact h.1 NFN.out);go_enter Tryz.func55,Tryz.ntmps55
   go_upto_region 2 with fail
   first|rw[hwr,hWW]|rw[hwr]|rw[hWW]|skip
   clear hWW;have hd6:Below W2.heap.size W2 W2.drew:=(Below.refl _ W2).drew;have HSS6:=Lib.hid (fun w' (h:Below W2.heap.size W2 w')=>And.intro (HS29.out _ h) (And.intro ((HI2.out.below h).blk.cellR 26 rfl) (And.intro ((HI2.out.below h).blk.cellR 24 rfl) (And.intro (HS25.out _ h) ((HI2.out.below h).blk.cellR 39 rfl)))))
   go_upto_region 6 with fail
   refine tr (S:=(fun w'=>w'.cell? ⟨g,29,none⟩=some (.pointer (some ⟨g,o,none⟩))∧w'.cell? ⟨g,26,none⟩=some (.string X.key)∧w'.cell? ⟨g,24,none⟩=some (.int .i64 e.t)∧w'.cell? ⟨g,25,none⟩=some (.slice Ae e.r.length ce)∧w'.cell? ⟨g,39,none⟩=some (.bool X.met))) (HSS6.out _ hd6) (fun hHeld=> ?_);refine tk 0 ?_;refine tk 1 ?_;refine tk 2 ?_;refine tk 3 ?_;refine tk 4 ?_;refine tk 5 ?_;refine tk 6 ?_;refine tk 7 ?_;refine tk 8 ?_;refine tk 9 ?_;refine tk 10 ?_;refine tk 12 ?_;refine tk 13 ?_;refine tk 14 ?_;refine tk 15 ?_;refine tk 16 ?_;refine tk 17 ?_;refine tk 18 ?_;refine tk 19 ?_;refine tk 20 ?_;refine tk 21 ?_;refine tk 22 ?_;refine tk 23 ?_;refine tk 24 ?_;refine tk 25 ?_;refine tk 26 ?_;refine tk 27 ?_;refine tk 28 ?_;refine tk 29 ?_;refine tk 30 ?_;refine tk 31 ?_;refine tc 11 ?_;intro K hK;obtain⟨b0,b1,b2⟩:=HBC.out _ hd6;go_simp;clear b0 b1 b2;refine hK.out _ _ (HSS6.out _ hd6) (fun hHeld11=> ?_);clear hK K;refine tc 32 ?_;intro K hK;go_simp;refine Calls.mono (by with_reducible exact HPT.out _ hd6) ?_;rintro r x5 ⟨⟨lim,vm,mem,vr,runs⟩,rfl,hOB,hbu,hb5⟩;have hd5:=below_trans hd6 hb5;obtain⟨Am,nm,cm,hvm⟩:=own_slice hOB.mem.own;obtain⟨Ar,nr,cr,hvr⟩:=own_slice hOB.sl;simp only at hvm hvr;subst hvm hvr;have HBU:=Lib.hid hbu;have hIx:=HI2.out.below hd5;have HPB:=Lib.hid (HPUT.out x5 _ hIx (hOB.low (Nat.le_trans HI2.out.size hd6.size)) (fun k hk=>OwnBuf.off' (X:=⟨X.s.next,X.key,X.has,X.vo,X.m,X.met⟩) hOB hk HI2.out hd6.size));have HD5:=Lib.hid hd5;have HSF:Hid ((((x5.setCell ⟨g,o,none⟩ (.int .i64 lim)).setCell ⟨g,o+1,none⟩ (.slice Am nm cm)).setCell ⟨g,o+2,none⟩ (.slice Ar nr cr)).cell? ⟨g,29,none⟩=some (.pointer (some ⟨g,o,none⟩))∧(((x5.setCell ⟨g,o,none⟩ (.int .i64 lim)).setCell ⟨g,o+1,none⟩ (.slice Am nm cm)).setCell ⟨g,o+2,none⟩ (.slice Ar nr cr)).cell? ⟨g,26,none⟩=some (.string X.key)∧(((x5.setCell ⟨g,o,none⟩ (.int .i64 lim)).setCell ⟨g,o+1,none⟩ (.slice Am nm cm)).setCell ⟨g,o+2,none⟩ (.slice Ar nr cr)).cell? ⟨g,24,none⟩=some (.int .i64 e.t)∧(((x5.setCell ⟨g,o,none⟩ (.int .i64 lim)).setCell ⟨g,o+1,none⟩ (.slice Am nm cm)).setCell ⟨g,o+2,none⟩ (.slice Ar nr cr)).cell? ⟨g,25,none⟩=some (.slice Ae e.r.length ce)∧(((x5.setCell ⟨g,o,none⟩ (.int .i64 lim)).setCell ⟨g,o+1,none⟩ (.slice Am nm cm)).setCell ⟨g,o+2,none⟩ (.slice Ar nr cr)).cell? ⟨g,39,none⟩=some (.bool X.met)):=Lib.hid (And.intro (by have:=HPB.out.blk.cellR 29 rfl;rw[this,bufA_is,HFE.out,HOE.out]) (And.intro (HPB.out.blk.cellR 26 rfl) (And.intro (HPB.out.blk.cellR 24 rfl) (And.intro (by have:=HPB.out.blk.cellR 25 rfl;rw[this,HVE.out]) (HPB.out.blk.cellR 39 rfl)))));clear hb5 hOB hbu hIx
   go_wp2_with fail
   refine hK.out _ _ (HSS6.out _ hd5) (fun hHeld32=> ?_);clear hK K;refine tk 33 ?_;refine tk 34 ?_;refine tk 35 ?_;refine tk 36 ?_;refine tc 37 ?_;intro K hK;obtain⟨b0,b1,b2⟩:=HBC.out _ hd5;have hK0:=(HI2.out.below hd5).blk;have q0:=hK0.free o;have q1:=hK0.free (o+1);have q2:=hK0.free (o+2);clear hK0;go_simp;clear b0 b1 b2 q0 q1 q2;refine hK.out _ _ HSF.out (fun hHeld37=> ?_);clear hK K;refine td ?_;go_wp2
   first|go_end0|((try simp only[Exit.inBlock,Exit.then]);refine bodyPost_ret (results_none rfl _ _ _) rfl ?_)
   refine⟨rfl,X.s.next.put e.side ⟨lim,.slice Am nm cm,mem,.slice Ar nr cr,runs⟩,?_,by have h:=HPB.out;rw[hhas]at h;exact h,(HT2.out.trans (turned_below HD5.out)).trans (((turned_set x5 ⟨g,o,none⟩ (.int .i64 lim)).trans (turned_set _ ⟨g,o+1,none⟩ (.slice Am nm cm))).trans (turned_set _ ⟨g,o+2,none⟩ (.slice Ar nr cr)))⟩;rw[←HSX.out];refine Eq.trans ?_ (if_neg HNC.out).symm;rw[Jv.put_jn,HBU.out,HFF.out]
  ·have hbm:(fm != -1099511627777)=true:=by simpa[noM]using hfn
   have HGN2:=Lib.hid (HGN.out hfn);have NFN:Hid (fm≠noM):=Lib.hid hfn;clear hfn;obtain⟨G,hGo⟩: ∃q,goneF p F fm=q:=⟨_,rfl⟩;rw[hGo]at HGN2 HSX;clear HGN;have HGN:=HGN2;clear HGN2;by_cases htg:e.t≤G
   ·have htb:decide (e.t≤G)=true:=decide_eq_true htg
    go_enter Tryz.func55,Tryz.ntmps55
    go_upto_region 2 with fail
    first|rw[hwr,hWW]|rw[hwr]|rw[hWW]|skip
    clear hWW;have HSS4:=Lib.hid (fun w' (h:Below W2.heap.size W2 w')=>And.intro ((HK2.out.below h).cellR 0 rfl) (And.intro ((HK2.out.below h).cellR 1 rfl) (And.intro ((HK2.out.below h).cellR 2 rfl) (And.intro ((HK2.out.below h).cellR 3 rfl) (And.intro ((HK2.out.below h).cellR 4 rfl) (And.intro ((HK2.out.below h).cellR 5 rfl) (And.intro ((HK2.out.below h).cellR 6 rfl) (And.intro ((HK2.out.below h).cellR 7 rfl) (And.intro ((HK2.out.below h).cellR 8 rfl) (And.intro ((HK2.out.below h).cellR 9 rfl) (And.intro ((HK2.out.below h).cellR 10 rfl) (And.intro ((HK2.out.below h).cellR 11 rfl) (And.intro ((HK2.out.below h).cellR 12 rfl) (And.intro (HS28.out _ h) (HS35.out _ h)))))))))))))))
    go_upto_region 4 with fail
    refine tr (S:=(fun w'=>w'.cell? ⟨g,0,none⟩=some (.int .i64 p.kind)∧w'.cell? ⟨g,1,none⟩=some (.int .i64 p.mode)∧w'.cell? ⟨g,2,none⟩=some (.int .i64 p.low)∧w'.cell? ⟨g,3,none⟩=some (.int .i64 p.high)∧w'.cell? ⟨g,4,none⟩=some (.int .i64 p.size)∧w'.cell? ⟨g,5,none⟩=some (.int .i64 p.limit)∧w'.cell? ⟨g,6,none⟩=some (p.vl)∧w'.cell? ⟨g,7,none⟩=some (p.vr)∧w'.cell? ⟨g,8,none⟩=some (p.vk)∧w'.cell? ⟨g,9,none⟩=some (p.vq)∧w'.cell? ⟨g,10,none⟩=some (.bool p.grouped)∧w'.cell? ⟨g,11,none⟩=some (p.vg)∧w'.cell? ⟨g,12,none⟩=some (p.va)∧w'.cell? ⟨g,28,none⟩=some (.int .i64 F)∧w'.cell? ⟨g,35,none⟩=some (.int .i64 fm))) (HSS4.out _ hd0) (fun hHeld=> ?_);refine tk 0 ?_;refine tk 1 ?_;refine tk 2 ?_;refine tk 3 ?_;refine tk 4 ?_;refine tk 5 ?_;refine tk 6 ?_;refine tk 7 ?_;refine tk 8 ?_;refine tk 9 ?_;refine tk 10 ?_;refine tk 11 ?_;refine tk 12 ?_;refine tk 13 ?_;refine tc 14 ?_;intro K hK;go_simp;refine Calls.mono (by with_reducible exact HGN.out _ hd0) ?_;rintro r x3 ⟨rfl,hb3⟩;have hx3:=below_trans hd0 hb3;clear hb3
    go_wp2_with fail
    refine hK.out _ _ (HSS4.out _ hx3) (fun hHeld14=> ?_);clear hK K;refine tk 15 ?_;refine tk 16 ?_;refine tk 17 ?_;refine tk 18 ?_;refine tk 19 ?_;refine td ?_;have hp24:=(HI2.out.below hx3).blk.cellR 24 rfl;go_wp2
    first|go_end0|((try simp only[Exit.inBlock,Exit.then]);refine bodyPost_ret (results_none rfl _ _ _) rfl ?_)
    exact⟨rfl,X.s.next,by rw[←HSX.out];exact(if_pos (.inr ⟨NFN.out,htg⟩)).symm,by have h:=HI2.out.below hx3;rw[hhas]at h;exact h,HT2.out.trans (turned_below hx3)⟩
   ·have htb:decide (e.t≤G)=false:=decide_eq_false htg
    have HNC:Hid (¬(true=false∨(fm≠noM∧e.t≤G))):=Lib.hid (by rintro(h|h);exact absurd h (by decide);exact htg h.2);go_enter Tryz.func55,Tryz.ntmps55
    go_upto_region 2 with fail
    first|rw[hwr,hWW]|rw[hwr]|rw[hWW]|skip
    clear hWW;have HSS4:=Lib.hid (fun w' (h:Below W2.heap.size W2 w')=>And.intro ((HK2.out.below h).cellR 0 rfl) (And.intro ((HK2.out.below h).cellR 1 rfl) (And.intro ((HK2.out.below h).cellR 2 rfl) (And.intro ((HK2.out.below h).cellR 3 rfl) (And.intro ((HK2.out.below h).cellR 4 rfl) (And.intro ((HK2.out.below h).cellR 5 rfl) (And.intro ((HK2.out.below h).cellR 6 rfl) (And.intro ((HK2.out.below h).cellR 7 rfl) (And.intro ((HK2.out.below h).cellR 8 rfl) (And.intro ((HK2.out.below h).cellR 9 rfl) (And.intro ((HK2.out.below h).cellR 10 rfl) (And.intro ((HK2.out.below h).cellR 11 rfl) (And.intro ((HK2.out.below h).cellR 12 rfl) (And.intro (HS28.out _ h) (HS35.out _ h)))))))))))))))
    go_upto_region 4 with fail
    refine tr (S:=(fun w'=>w'.cell? ⟨g,0,none⟩=some (.int .i64 p.kind)∧w'.cell? ⟨g,1,none⟩=some (.int .i64 p.mode)∧w'.cell? ⟨g,2,none⟩=some (.int .i64 p.low)∧w'.cell? ⟨g,3,none⟩=some (.int .i64 p.high)∧w'.cell? ⟨g,4,none⟩=some (.int .i64 p.size)∧w'.cell? ⟨g,5,none⟩=some (.int .i64 p.limit)∧w'.cell? ⟨g,6,none⟩=some (p.vl)∧w'.cell? ⟨g,7,none⟩=some (p.vr)∧w'.cell? ⟨g,8,none⟩=some (p.vk)∧w'.cell? ⟨g,9,none⟩=some (p.vq)∧w'.cell? ⟨g,10,none⟩=some (.bool p.grouped)∧w'.cell? ⟨g,11,none⟩=some (p.vg)∧w'.cell? ⟨g,12,none⟩=some (p.va)∧w'.cell? ⟨g,28,none⟩=some (.int .i64 F)∧w'.cell? ⟨g,35,none⟩=some (.int .i64 fm))) (HSS4.out _ hd0) (fun hHeld=> ?_);refine tk 0 ?_;refine tk 1 ?_;refine tk 2 ?_;refine tk 3 ?_;refine tk 4 ?_;refine tk 5 ?_;refine tk 6 ?_;refine tk 7 ?_;refine tk 8 ?_;refine tk 9 ?_;refine tk 10 ?_;refine tk 11 ?_;refine tk 12 ?_;refine tk 13 ?_;refine tc 14 ?_;intro K hK;go_simp;refine Calls.mono (by with_reducible exact HGN.out _ hd0) ?_;rintro r x3 ⟨rfl,hb3⟩;have hx3:=below_trans hd0 hb3;clear hb3
    go_wp2_with fail
    refine hK.out _ _ (HSS4.out _ hx3) (fun hHeld14=> ?_);clear hK K;refine tk 15 ?_;refine tk 16 ?_;refine tk 17 ?_;refine tk 18 ?_;refine tk 19 ?_;refine td ?_;have hp24:=(HI2.out.below hx3).blk.cellR 24 rfl;have hd6:Below W2.heap.size W2 x3.drew:=hx3.drew;have HSS6:=Lib.hid (fun w' (h:Below W2.heap.size W2 w')=>And.intro (HS29.out _ h) (And.intro ((HI2.out.below h).blk.cellR 26 rfl) (And.intro ((HI2.out.below h).blk.cellR 24 rfl) (And.intro (HS25.out _ h) ((HI2.out.below h).blk.cellR 39 rfl)))))
    go_upto_region 6 with fail
    refine tr (S:=(fun w'=>w'.cell? ⟨g,29,none⟩=some (.pointer (some ⟨g,o,none⟩))∧w'.cell? ⟨g,26,none⟩=some (.string X.key)∧w'.cell? ⟨g,24,none⟩=some (.int .i64 e.t)∧w'.cell? ⟨g,25,none⟩=some (.slice Ae e.r.length ce)∧w'.cell? ⟨g,39,none⟩=some (.bool X.met))) (HSS6.out _ hd6) (fun hHeld=> ?_);refine tk 0 ?_;refine tk 1 ?_;refine tk 2 ?_;refine tk 3 ?_;refine tk 4 ?_;refine tk 5 ?_;refine tk 6 ?_;refine tk 7 ?_;refine tk 8 ?_;refine tk 9 ?_;refine tk 10 ?_;refine tk 12 ?_;refine tk 13 ?_;refine tk 14 ?_;refine tk 15 ?_;refine tk 16 ?_;refine tk 17 ?_;refine tk 18 ?_;refine tk 19 ?_;refine tk 20 ?_;refine tk 21 ?_;refine tk 22 ?_;refine tk 23 ?_;refine tk 24 ?_;refine tk 25 ?_;refine tk 26 ?_;refine tk 27 ?_;refine tk 28 ?_;refine tk 29 ?_;refine tk 30 ?_;refine tk 31 ?_;refine tc 11 ?_;intro K hK;obtain⟨b0,b1,b2⟩:=HBC.out _ hd6;go_simp;clear b0 b1 b2;refine hK.out _ _ (HSS6.out _ hd6) (fun hHeld11=> ?_);clear hK K;refine tc 32 ?_;intro K hK;go_simp;refine Calls.mono (by with_reducible exact HPT.out _ hd6) ?_;rintro r x5 ⟨⟨lim,vm,mem,vr,runs⟩,rfl,hOB,hbu,hb5⟩;have hd5:=below_trans hd6 hb5;obtain⟨Am,nm,cm,hvm⟩:=own_slice hOB.mem.own;obtain⟨Ar,nr,cr,hvr⟩:=own_slice hOB.sl;simp only at hvm hvr;subst hvm hvr;have HBU:=Lib.hid hbu;have hIx:=HI2.out.below hd5;have HPB:=Lib.hid (HPUT.out x5 _ hIx (hOB.low (Nat.le_trans HI2.out.size hd6.size)) (fun k hk=>OwnBuf.off' (X:=⟨X.s.next,X.key,X.has,X.vo,X.m,X.met⟩) hOB hk HI2.out hd6.size));have HD5:=Lib.hid hd5;have HSF:Hid ((((x5.setCell ⟨g,o,none⟩ (.int .i64 lim)).setCell ⟨g,o+1,none⟩ (.slice Am nm cm)).setCell ⟨g,o+2,none⟩ (.slice Ar nr cr)).cell? ⟨g,29,none⟩=some (.pointer (some ⟨g,o,none⟩))∧(((x5.setCell ⟨g,o,none⟩ (.int .i64 lim)).setCell ⟨g,o+1,none⟩ (.slice Am nm cm)).setCell ⟨g,o+2,none⟩ (.slice Ar nr cr)).cell? ⟨g,26,none⟩=some (.string X.key)∧(((x5.setCell ⟨g,o,none⟩ (.int .i64 lim)).setCell ⟨g,o+1,none⟩ (.slice Am nm cm)).setCell ⟨g,o+2,none⟩ (.slice Ar nr cr)).cell? ⟨g,24,none⟩=some (.int .i64 e.t)∧(((x5.setCell ⟨g,o,none⟩ (.int .i64 lim)).setCell ⟨g,o+1,none⟩ (.slice Am nm cm)).setCell ⟨g,o+2,none⟩ (.slice Ar nr cr)).cell? ⟨g,25,none⟩=some (.slice Ae e.r.length ce)∧(((x5.setCell ⟨g,o,none⟩ (.int .i64 lim)).setCell ⟨g,o+1,none⟩ (.slice Am nm cm)).setCell ⟨g,o+2,none⟩ (.slice Ar nr cr)).cell? ⟨g,39,none⟩=some (.bool X.met)):=Lib.hid (And.intro (by have:=HPB.out.blk.cellR 29 rfl;rw[this,bufA_is,HFE.out,HOE.out]) (And.intro (HPB.out.blk.cellR 26 rfl) (And.intro (HPB.out.blk.cellR 24 rfl) (And.intro (by have:=HPB.out.blk.cellR 25 rfl;rw[this,HVE.out]) (HPB.out.blk.cellR 39 rfl)))));clear hb5 hOB hbu hIx
    go_wp2_with fail
    refine hK.out _ _ (HSS6.out _ hd5) (fun hHeld32=> ?_);clear hK K;refine tk 33 ?_;refine tk 34 ?_;refine tk 35 ?_;refine tk 36 ?_;refine tc 37 ?_;intro K hK;obtain⟨b0,b1,b2⟩:=HBC.out _ hd5;have hK0:=(HI2.out.below hd5).blk;have q0:=hK0.free o;have q1:=hK0.free (o+1);have q2:=hK0.free (o+2);clear hK0;go_simp;clear b0 b1 b2 q0 q1 q2;refine hK.out _ _ HSF.out (fun hHeld37=> ?_);clear hK K;refine td ?_;go_wp2
    first|go_end0|((try simp only[Exit.inBlock,Exit.then]);refine bodyPost_ret (results_none rfl _ _ _) rfl ?_)
    refine⟨rfl,X.s.next.put e.side ⟨lim,.slice Am nm cm,mem,.slice Ar nr cr,runs⟩,?_,by have h:=HPB.out;rw[hhas]at h;exact h,(HT2.out.trans (turned_below HD5.out)).trans (((turned_set x5 ⟨g,o,none⟩ (.int .i64 lim)).trans (turned_set _ ⟨g,o+1,none⟩ (.slice Am nm cm))).trans (turned_set _ ⟨g,o+2,none⟩ (.slice Ar nr cr)))⟩;rw[←HSX.out];refine Eq.trans ?_ (if_neg HNC.out).symm;rw[Jv.put_jn,HBU.out,HFF.out]
end Go.Proofs.YtjodlngbiikgfaaGreatDoor
namespace Go.Proofs.YtjodlngbiikgfaaGreatDoor
open tm (fitsB fits_of)
theorem put_ready {p:Pl}{s:Jn}{v:Ev}(hG:GoodJ p s)(hv:EvOk p s v)(hk:v.kind=1)(hf:Fine v.r)(hK:(keyFor p v.side v.r).2=true)(m:Bool):
 putE (s.buf v.side) ⟨(keyFor p v.side v.r).1.toList,v.t,s.seq,v.r,m⟩=0∧FineE ⟨(keyFor p v.side v.r).1.toList,v.t,s.seq,v.r,m⟩:=by
 obtain⟨h1,h2,h3,h4⟩:=hv.row hk;obtain⟨r1,r2,r3⟩:=rangesJ_of hG.ranges;exact⟨putE_new hG hv.side (ok_new hG.plan h1 hf hK hv.time r3.1 r3.2) rfl h4,fine_new hG.plan h1 hf hK hv.time r3.1 r3.2⟩
theorem touched_jn {p:Pl}{s:Jv}{v:Ev}{b:Buf}(hb:b.bu=touchB (s.buf (farS v.side)).bu (bringJ p s.jn v).2.1):(s.put (farS v.side) b).next.jn=touchedJ p s.jn v:=by
 have h1:=Jv.put_jn s (farS v.side) b;have h2:=s.put_marks (farS v.side) b;unfold touchedJ;rw[←Jv.buf_bu,←hb,←h1];show(⟨(s.put (farS v.side) b).l.bu,(s.put (farS v.side) b).r.bu,(s.put (farS v.side) b).lm,(s.put (farS v.side) b).rm,(s.put (farS v.side) b).seq+1⟩:Jn)=⟨(s.put (farS v.side) b).l.bu,(s.put (farS v.side) b).r.bu,s.lm,s.rm,s.seq+1⟩;rw[h2.1,h2.2.1,h2.2.2]
theorem far_mark {s:Jn}{side:Int}(h:side=1∨side=2):(if side=2 then s.lm else s.rm)=s.mark (farS side):=by
 rcases h with rfl|rfl<;>rfl
end Go.Proofs.YtjodlngbiikgfaaGreatDoor
