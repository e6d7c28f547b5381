/-All, Pack and Drop. The reference's All, Pack, Drop, Take and Scan. Something done at a place: Meet and Take. Meet and Take: something done at a place -/
import Derived.Test.YtjodlngbiikgfaaGreatDoorGrpK17
import Derived.Test.YtjodlngbiikgfaaGreatDoorGrpK9
import Derived.Test.YtjodlngbiikgfaaGreatDoorGrpK6
set_option linter.unusedSimpArgs false
set_option linter.unusedVariables false
namespace Go.Proofs.YtjodlngbiikgfaaGreatDoor
open Go.RowKit Go.Shelf
theorem merged_sort {b:Bu}{m:List En}(hg:Alone b.all)(hp:m.Perm b.all)(hs:m.Pairwise fun a b=> ¬cmpE b a<0):m=sortE b.all:=by
 have hmA:=alone_perm hp.symm hg
 have hmU:Up m:=by
  refine List.pairwise_iff_getElem.2 fun i j hi hj hij=> ?_;have h2:=List.pairwise_iff_getElem.1 hs i j hi hj hij;have h3:=List.pairwise_iff_getElem.1 hmA i j hi hj hij;have h4:=cmpE_flip m[i] m[j];omega
 exact(sortE_eq hp hmU).symm
theorem mergedGood_any (b:Buf)(w:World)(hb:b.ok w)(hg:GoodB b.bu):
 Calls Tryz.prog 61 #[b.agg] w fun e w'=> ∃v l,e= .returned v∧OwnE w' (w.heap.size+3) v l∧ens l=sortE b.bu.all∧Below w.heap.size w w'∧w.heap.size+3≤w'.heap.size:=by
 refine(merged_any b w hb (fun k=>by have h1:=part_len b k;have h2:=hg.few;omega) (by have:=hg.few;omega) (by have:=good_runs hg;omega) (fun k x hx=>okE_short (hg.ok _ (part_mem hx)))).mono ?_;rintro e w' ⟨v,l,he,ho,hp,hs,hb,hsz⟩;exact⟨v,l,he,ho,merged_sort hg.alone hp hs,hb,hsz⟩
set_option maxHeartbeats 4000000 in
set_option maxRecDepth 10000 in
theorem all_any (b:Buf)(w:World)(hb:b.ok w)(hf:b.fit)(hm:Mx w):
 Calls Tryz.prog 27 #[b.agg] w fun e w'=> ∃v l,e= .returned (.tuple #[v,.int .i64 (checkB b.bu)])∧OwnE w' w.heap.size v l∧ens l=(if checkB b.bu=0 then sortE b.bu.all else[])∧Below w.heap.size w w':=by
 have HO:=Lib.hid hb;have HCH:=Lib.hid (fun w' (h:Below w.heap.size w w')=>bcheck_any b w' (hb.below h) hf (hm.below h));have HME:=Lib.hid (fun(hg:GoodB b.bu) w' (h:Below w.heap.size w w')=>mergedGood_any b w' (hb.below h) hg);have HGD:=Lib.hid (check_zeroB (b:=b.bu));generalize checkB b.bu=CK at HCH HGD⊢;generalize hSL:(if CK=0 then sortE b.bu.all else[])=SL;obtain⟨Av,cv,hvb,-⟩:=id hb.mem.sl;obtain⟨Ar,cr,hvr,-⟩:=id hb.sl;unfold Buf.agg at HCH HME⊢;rw[hvb,hvr]at HCH HME⊢;have HK:=Lib.hid (Blk.new w 29 #[.int .i64 b.limit,.slice Av b.mem.length cv,.slice Ar b.runs.length cr]);have hB:=below_alloc w (.cells #[.int .i64 b.limit,.slice Av b.mem.length cv,.slice Ar b.runs.length cr] 29);have y0:=HK.out.cell 0 _ rfl;have y1:=HK.out.cell 1 _ rfl;have y2:=HK.out.cell 2 _ rfl;clear hb hf hm hvb hvr;go_enter Tryz.func27,Tryz.ntmps27
 go_wp2_with fail
 refine(HCH.out _ hB).mono ?_;rintro e w1 ⟨rfl,hb1⟩;have hbw1:=below_trans hB hb1;have K1:=HK.out.below hb1;clear y0 y1 y2 hB hb1 HK;by_cases hck:CK=0
 ·have HGO:=HGD.out.1 hck
  have HSL:Hid (SL=sortE b.bu.all):=Lib.hid (hSL.symm.trans (if_pos hck));have HMX:=Lib.hid (HME.out HGO _ hbw1);subst hck;have y0:=K1.cell 0 _ rfl;have y1:=K1.cell 1 _ rfl;have y2:=K1.cell 2 _ rfl;clear HGD hSL HGO HME HCH K1
  go_wp2_with fail
  refine HMX.out.mono ?_;rintro e w2 ⟨v,l,rfl,hown,he,hb2,-⟩;have hbw2:=below_trans hbw1 hb2;have hE:ens l=SL:=by rw[he,HSL.out]
  have hO:=hown.low (base':=w.heap.size) (by have:=hbw1.size;omega);clear y0 y1 y2 HMX HSL he hown;go_wp2
  go_ret2
  exact⟨v,l,rfl,hO,hE,hbw2⟩
 ·have hE:SL=[]:=hSL.symm.trans (if_neg hck)
  have hb0:=bneT hck;clear hSL HGD K1;go_wp2
  go_ret2
  exact⟨.slice none 0 0,[],rfl,OwnE.nil _ _,hE.symm,hbw1⟩
set_option maxHeartbeats 2000000 in
theorem drop1_any (c:Nat)(upto:Int)(x:Ent)(W:World)(P:Nat)(hP:Blk W P 63 #[.string (str x.e.key),.int .i64 x.e.t,.int .i64 x.e.s,x.v,.bool x.e.met])(hc:Blk W c 3 #[.int .i64 upto]):
 Calls Tryz.prog 143 #[.pointer (some ⟨P,0,none⟩),.pointer (some ⟨c,0,none⟩)] W fun e w2=>e= .returned (.bool (decide (upto<x.e.t)))∧Blk w2 P 63 #[.string (str x.e.key),.int .i64 x.e.t,.int .i64 x.e.s,x.v,.bool x.e.met]∧W.grownBy w2 (some P):=by
 have x1:=hP.cell 1 _ rfl;have c0:=hc.cell 0 _ rfl;have H:=Lib.hid hP;clear hP hc;go_enter Tryz.func143,Tryz.ntmps143
 go_wp2_with fail
 go_quiet (fail)
 go_wp2;go_ret;exact⟨rfl,H.out,⟨rfl,rfl,rfl,Nat.le_refl _,fun _ _ _=>rfl⟩⟩
theorem dropB_sift (b:Bu)(upto:Int):dropB b upto=siftB b (siftF (fun e=>decide (upto<e.t)) (fun e=>e.met)):=by
 unfold dropB
 congr 1
 funext e
 unfold siftF;by_cases h:upto<e.t
 ·rw[if_pos h,if_pos (decide_eq_true h)]
 ·rw[if_neg h,if_neg (by show ¬decide (upto<e.t)=true;simp;omega)]
theorem siftDrop_any (b:Buf)(upto:Int)(c:Nat)(w:World)(hb:b.ok w)(hg:GoodB b.bu)(hc:Blk w c 3 #[.int .i64 upto]):
 Calls Tryz.prog 142 #[b.agg,.func (.func 143) #[] #[.pointer (some ⟨c,0,none⟩)]] w fun e w'=> ∃b':Buf,e= .returned b'.agg∧OwnBuf w' (w.heap.size+5) b'∧b'.bu=dropB b.bu upto∧Below w.heap.size w w'∧w.heap.size+5≤w'.heap.size:=by
 have h:=sift_any 143 #[.pointer (some ⟨c,0,none⟩)] (fun e=>decide (upto<e.t)) (fun e=>e.met) b w hb (fun k=>by have h1:=part_len b k;have h2:=hg.few;omega) (by have:=good_runs hg;omega) (fun k x hx=>okE_short (hg.ok _ (part_mem hx)))
  (enters_of Tryz.func143 (by kernel_rfl) rfl) (fun x W P h1 _ _ hB=>drop1_any c upto x W P hB (hc.below h1))
 rw[←dropB_sift]at h;exact h
set_option maxHeartbeats 8000000 in
set_option maxRecDepth 10000 in
theorem drop_any (b:Buf)(upto:Int)(w:World)(hb:b.ok w)(hf:b.fit)(hm:Mx w):
 Calls Tryz.prog 94 #[b.agg,.int .i64 upto] w fun e w'=> ∃b':Buf,e= .returned (.tuple #[b'.agg,.int .i64 (checkB b.bu)])∧OwnBuf w' w.heap.size b'∧b'.bu=(if checkB b.bu=0 then dropB b.bu upto else noB)∧Below w.heap.size w w':=by
 have HO:=Lib.hid hb;have HCH:=Lib.hid (fun w' (h:Below w.heap.size w w')=>bcheck_any b w' (hb.below h) hf (hm.below h));have HSI:=Lib.hid (fun(hg:GoodB b.bu) w' (h:Below w.heap.size w w') hc=>siftDrop_any b upto (w.heap.size+1) w' (hb.below h) hg hc);have HGD:=Lib.hid (check_zeroB (b:=b.bu));generalize checkB b.bu=CK at HCH HGD⊢;generalize hSL:(if CK=0 then dropB b.bu upto else noB)=SL;obtain⟨Av,cv,hvb,-⟩:=id hb.mem.sl;obtain⟨Ar,cr,hvr,-⟩:=id hb.sl;unfold Buf.agg at HCH HSI⊢;rw[hvb,hvr]at HCH HSI;rw[hvb,hvr];have HK0:=Lib.hid (((Blk.new w 29 #[.int .i64 b.limit,.slice Av b.mem.length cv,.slice Ar b.runs.length cr]).alloc (.cells #[.int .i64 upto] 3)).alloc (.cells #[.int .i64 0,.slice none 0 0,.slice none 0 0] 29));have B1:=(new_second w 3 #[.int .i64 upto] (.cells #[.int .i64 b.limit,.slice Av b.mem.length cv,.slice Ar b.runs.length cr] 29)).alloc (.cells #[.int .i64 0,.slice none 0 0,.slice none 0 0] 29);have HK1:=Lib.hid B1
 have HK2:=Lib.hid (show Blk (((w.alloc (.cells #[.int .i64 b.limit,.slice Av b.mem.length cv,.slice Ar b.runs.length cr] 29)).alloc (.cells #[.int .i64 upto] 3)).alloc (.cells #[.int .i64 0,.slice none 0 0,.slice none 0 0] 29)) (w.heap.size+1+1) 29 #[.int .i64 0,.slice none 0 0,.slice none 0 0]from by
  have:=Blk.new ((w.alloc (.cells #[.int .i64 b.limit,.slice Av b.mem.length cv,.slice Ar b.runs.length cr] 29)).alloc (.cells #[.int .i64 upto] 3)) 29 #[.int .i64 0,.slice none 0 0,.slice none 0 0];simpa using this)
 have hB:=below_trans (below_trans (below_alloc w (.cells #[.int .i64 b.limit,.slice Av b.mem.length cv,.slice Ar b.runs.length cr] 29)) (below_alloc _ (.cells #[.int .i64 upto] 3))) (below_alloc _ (.cells #[.int .i64 0,.slice none 0 0,.slice none 0 0] 29));have y0:=HK0.out.cell 0 _ rfl;have y1:=HK0.out.cell 1 _ rfl;have y2:=HK0.out.cell 2 _ rfl;clear hb hf hm hvb hvr B1;go_enter Tryz.func94,Tryz.ntmps94
 go_wp2_with fail
 refine(HCH.out _ hB).mono ?_;rintro e w1 ⟨rfl,hb1⟩;have hbw1:=below_trans hB hb1;have K0:=HK0.out.below hb1;have K1:=HK1.out.below hb1;have K2:=HK2.out.below hb1;clear y0 y1 y2 hB hb1 HK0 HK1 HK2 HCH;by_cases hck:CK=0
 ·have HSX:=Lib.hid (HSI.out (HGD.out.1 hck) _ hbw1 K1)
  have HSL:Hid (SL=dropB b.bu upto):=Lib.hid (hSL.symm.trans (if_pos hck));subst hck;have y0:=K0.cell 0 _ rfl;have y1:=K0.cell 1 _ rfl;have y2:=K0.cell 2 _ rfl;have HK2:=Lib.hid K2;clear HGD hSL HSI K0 K1 K2
  go_wp2_with fail
  refine HSX.out.mono ?_;rintro e w2 ⟨b2,rfl,hob2,hbu2,hb2,-⟩;have hbw2:=below_trans hbw1 hb2;have hs1:=hbw1.size;obtain⟨Am,cm,hvm,-⟩:=id hob2.ok.mem.sl;obtain⟨Ar2,cr2,hvr2,-⟩:=id hob2.ok.sl;have HVM:=Lib.hid hvm;have HVR:=Lib.hid hvr2;have hE:b2.bu=SL:=by rw[hbu2,HSL.out]
  rw[hvm,hvr2];have K2:=HK2.out.below hb2;have hlt:=HK2.out.lt;have f0:=K2.free 0;have f1:=K2.free 1;have f2:=K2.free 2;have r0:=K2.cell 0 _ rfl;have r1:=K2.cell 1 _ rfl;have r2:=K2.cell 2 _ rfl;have KZ:=K2.set3 (.int .i64 b2.limit) (.slice Am b2.mem.length cm) (.slice Ar2 b2.runs.length cr2);have z0:=KZ.cell 0 _ rfl;have z1:=KZ.cell 1 _ rfl;have z2:=KZ.cell 2 _ rfl;have hb9:=below_set3 hbw2 (g:=w.heap.size+1+1) (by omega) (.int .i64 b2.limit) (.slice Am b2.mem.length cm) (.slice Ar2 b2.runs.length cr2);have hob9:=(hob2.set3 (g:=w.heap.size+1+1) (by omega) (.int .i64 b2.limit) (.slice Am b2.mem.length cm) (.slice Ar2 b2.runs.length cr2)).low (base':=w.heap.size) (by omega);have HOB:=Lib.hid hob9;clear y0 y1 y2 HSX HSL hvm hvr2 K2 KZ hob9 hob2 hbu2 hb2 HK2;go_wp2;refine bodyPost_ret (v:= .tuple #[.agg #[.int .i64 b2.limit,.slice Am b2.mem.length cm,.slice Ar2 b2.runs.length cr2],.int .i64 0]) (by simp[results,Tryz.results94,go_sem,z0,z1,z2]) rfl ?_;exact⟨b2,by rw[HVM.out,HVR.out],HOB.out,hE,hb9⟩
 ·have HSL:Hid (SL=noB):=Lib.hid (hSL.symm.trans (if_neg hck))
  have hb0:=bneT hck;have f0:=K2.free 0;have f1:=K2.free 1;have f2:=K2.free 2;have r0:=K2.cell 0 _ rfl;have r1:=K2.cell 1 _ rfl;have r2:=K2.cell 2 _ rfl;have KZ:=K2.set3 (.int .i64 0) (.slice none 0 0) (.slice none 0 0);have z0:=KZ.cell 0 _ rfl;have z1:=KZ.cell 1 _ rfl;have z2:=KZ.cell 2 _ rfl;have hb9:=below_set3 hbw1 (g:=w.heap.size+1+1) (by omega) (.int .i64 0) (.slice none 0 0) (.slice none 0 0);clear hSL HGD K0 K1 K2 KZ HSI;go_wp2;refine bodyPost_ret (v:= .tuple #[.agg #[.int .i64 0,.slice none 0 0,.slice none 0 0],.int .i64 CK]) (by simp[results,Tryz.results94,go_sem,z0,z1,z2]) rfl ?_;exact⟨zB,rfl,OwnBuf.empty _ _ _,HSL.out.symm,hb9⟩
end Go.Proofs.YtjodlngbiikgfaaGreatDoor
namespace Go.Proofs.YtjodlngbiikgfaaGreatDoor
open Go.RowKit
end Go.Proofs.YtjodlngbiikgfaaGreatDoor
namespace Go.Proofs.YtjodlngbiikgfaaGreatDoor
open Go.RowKit
def placeE (key:List UInt8) (t s:Int):Ent:=⟨.slice none 0 0,⟨key,t,s,[],false⟩⟩
theorem placeE_agg (key:List UInt8)(t s:Int):(placeE key t s).agg= .agg #[.string (str key),.int .i64 t,.int .i64 s,.slice none 0 0,.bool false]:=rfl
def atS (b:Bu) (key:List UInt8) (t s:Int):Int:=if checkB b≠0 then checkB b else if isE b.all ⟨key,t,s,[],false⟩=true then 0 else 9
set_option maxHeartbeats 2000000 in
theorem meet1_any (P:Nat)(c0 c1 c2 c3 c4:Value)(W:World)(hP:Blk W P 63 #[c0,c1,c2,c3,c4]):
 Calls Tryz.prog 260 #[.pointer (some ⟨P,0,none⟩)] W fun e w2=>e= .returned (.bool true)∧w2=W.setCell ⟨P,4,none⟩ (.bool true):=by
 have x4:=hP.cell 4 _ rfl;have f4:=hP.free 4;clear hP;go_enter Tryz.func260,Tryz.ntmps260
 go_wp2;go_ret;exact⟨rfl,rfl⟩
set_option maxHeartbeats 2000000 in
theorem take1_any (P:Nat)(W:World):
 Calls Tryz.prog 259 #[.pointer (some ⟨P,0,none⟩)] W fun e w2=>e= .returned (.bool false)∧w2=W:=by
 go_enter Tryz.func259,Tryz.ntmps259
 go_wp2;go_ret;exact⟨rfl,rfl⟩
set_option maxHeartbeats 8000000 in
set_option maxRecDepth 10000 in
theorem at1Meet_any (key:List UInt8)(t s:Int)(c d:Nat)(x:Ent)(W:World)(P:Nat)(hP:Blk W P 63 #[.string (str x.e.key),.int .i64 x.e.t,.int .i64 x.e.s,x.v,.bool x.e.met])
 (hc:Blk W c 63 #[.string (str key),.int .i64 t,.int .i64 s,.slice none 0 0,.bool false]) (hd:Blk W d 211 #[.func (.func 260) #[] #[]]) (hv: ∃A n k,x.v= .slice A n k):
 Calls Tryz.prog 261 #[.pointer (some ⟨P,0,none⟩),.pointer (some ⟨c,0,none⟩),.pointer (some ⟨d,0,none⟩)] W fun e w2=>e= .returned (.bool true)∧
  Blk w2 P 63 #[.string (str x.e.key),.int .i64 x.e.t,.int .i64 x.e.s,x.v,.bool (if atE key t s x.e=true then true else x.e.met)]∧W.grownBy w2 (some P):=by
 have HOR:=Lib.hid (fun w'=>order_ent x (placeE key t s) w');have HAT:Hid (atE key t s x.e=decide (cmpE x.e (placeE key t s).e=0)):=Lib.hid (atE_iff false []);generalize hR:cmpE x.e (placeE key t s).e=R at HAT HOR;generalize hMQ:(if atE key t s x.e=true then true else x.e.met)=MQ;generalize atE key t s x.e=AT at HAT hMQ;obtain⟨A,n,k,hv⟩:=hv;rw[placeE_agg]at HOR;unfold Ent.agg at HOR;rw[hv]at HOR hP⊢;have HK:=Lib.hid hP;have HC:=Lib.hid hc;have HD:=Lib.hid hd;have x0:=hP.cell 0 _ rfl;have x1:=hP.cell 1 _ rfl;have x2:=hP.cell 2 _ rfl;have x3:=hP.cell 3 _ rfl;have x4:=hP.cell 4 _ rfl;have y0:=hc.cell 0 _ rfl;have y1:=hc.cell 1 _ rfl;have y2:=hc.cell 2 _ rfl;have y3:=hc.cell 3 _ rfl;have y4:=hc.cell 4 _ rfl;have d0:=hd.cell 0 _ rfl;clear hR hP hc hd hv;by_cases h0:R=0
 ·have HA:Hid (MQ=true):=Lib.hid (by rw[←hMQ,HAT.out,decide_eq_true h0];rfl)
  have hb0:(R != 0)=false:=by simp[h0]
  clear HAT hMQ;go_enter Tryz.func261,Tryz.ntmps261
  go_wp2_with fail
  go_region_with (first
   |(go_at_call 85
     refine(HOR.out _).mono ?_;rintro e w5 ⟨rfl,hb5⟩;have HB5:=Lib.hid hb5;have K5:=HK.out.drew.below hb5;have q4:=K5.cell 4 _ rfl;have HK5:=Lib.hid K5;have d1:=(HD.out.drew.below hb5).cell 0 _ rfl;clear K5 hb5)
   |(go_at_call 260
     refine(meet1_any P _ _ _ _ _ _ HK5.out).mono ?_;rintro e w6 ⟨rfl,hw6⟩;have HW6:=Lib.hid hw6;clear hw6))
  all_goals
   go_wp2;go_ret;refine⟨rfl,?_,?_⟩
   ·rw[HA.out,HW6.out]
    exact HK5.out.set_ 4 (.bool true)
   ·rw[HW6.out]
    exact drew_grown (grown_setE (grown_of_below HB5.out _) 4 _)
 ·have HA:Hid (MQ=x.e.met):=Lib.hid (by rw[←hMQ,HAT.out,decide_eq_false h0];rfl)
  have hb0:=bneT h0;clear HAT hMQ;go_enter Tryz.func261,Tryz.ntmps261
  go_wp2_with fail
  refine wp_region_held_drew (S:=(fun w'=>w'.cell? ⟨P,0,none⟩=some (.string (str x.e.key))∧w'.cell? ⟨P,1,none⟩=some (.int .i64 x.e.t)∧w'.cell? ⟨P,2,none⟩=some (.int .i64 x.e.s)∧w'.cell? ⟨P,3,none⟩=some (.slice A n k)∧w'.cell? ⟨P,4,none⟩=some (.bool x.e.met)∧w'.cell? ⟨c,0,none⟩=some (.string (str key))∧w'.cell? ⟨c,1,none⟩=some (.int .i64 t)∧w'.cell? ⟨c,2,none⟩=some (.int .i64 s)∧w'.cell? ⟨c,3,none⟩=some (.slice none 0 0)∧w'.cell? ⟨c,4,none⟩=some (.bool false))) (by kernel_rfl) (And.intro (x0) (And.intro (x1) (And.intro (x2) (And.intro (x3) (And.intro (x4) (And.intro (y0) (And.intro (y1) (And.intro (y2) (And.intro (y3) (y4)))))))))) (fun hHeld=> ?_);refine tk 0 ?_;refine tk 1 ?_;refine tk 2 ?_;refine tk 3 ?_;refine tc 4 ?_;intro K hK;go_simp;refine(HOR.out _).mono ?_;rintro e w5 ⟨rfl,hb5⟩;have HB5:=Lib.hid hb5;have K5:=HK.out.drew.below hb5;have C5:=HC.out.drew.below hb5;have HK5:=Lib.hid K5;have zz:=And.intro (K5.cell 0 _ rfl) (And.intro (K5.cell 1 _ rfl) (And.intro (K5.cell 2 _ rfl) (And.intro (K5.cell 3 _ rfl) (And.intro (K5.cell 4 _ rfl) (And.intro (C5.cell 0 _ rfl) (And.intro (C5.cell 1 _ rfl) (And.intro (C5.cell 2 _ rfl) (And.intro (C5.cell 3 _ rfl) (C5.cell 4 _ rfl)))))))))
  go_wp2_with fail
  refine hK.out _ _ zz (fun hHeld4=> ?_);clear hK K;refine tk 5 ?_;refine tk 6 ?_;refine tn 7 ?_;refine tn 8 ?_;refine tn 9 ?_;refine tk 10 ?_;refine tk 11 ?_;refine td ?_
  all_goals
   go_wp2;go_ret;refine⟨rfl,?_,?_⟩
   ·rw[HA.out];exact HK5.out
   ·exact drew_grown (grown_of_below HB5.out _)
set_option maxHeartbeats 8000000 in
set_option maxRecDepth 10000 in
theorem at1Take_any (key:List UInt8)(t s:Int)(c d:Nat)(x:Ent)(W:World)(P:Nat)(hP:Blk W P 63 #[.string (str x.e.key),.int .i64 x.e.t,.int .i64 x.e.s,x.v,.bool x.e.met])
 (hc:Blk W c 63 #[.string (str key),.int .i64 t,.int .i64 s,.slice none 0 0,.bool false]) (hd:Blk W d 211 #[.func (.func 259) #[] #[]]) (hv: ∃A n k,x.v= .slice A n k):
 Calls Tryz.prog 261 #[.pointer (some ⟨P,0,none⟩),.pointer (some ⟨c,0,none⟩),.pointer (some ⟨d,0,none⟩)] W fun e w2=>e= .returned (.bool (!atE key t s x.e))∧
  Blk w2 P 63 #[.string (str x.e.key),.int .i64 x.e.t,.int .i64 x.e.s,x.v,.bool x.e.met]∧W.grownBy w2 (some P):=by
 have HOR:=Lib.hid (fun w'=>order_ent x (placeE key t s) w');have HAT:Hid (atE key t s x.e=decide (cmpE x.e (placeE key t s).e=0)):=Lib.hid (atE_iff false []);generalize hR:cmpE x.e (placeE key t s).e=R at HAT HOR;generalize atE key t s x.e=AT at HAT⊢;obtain⟨A,n,k,hv⟩:=hv;rw[placeE_agg]at HOR;unfold Ent.agg at HOR;rw[hv]at HOR hP⊢;have HK:=Lib.hid hP;have HC:=Lib.hid hc;have HD:=Lib.hid hd;have x0:=hP.cell 0 _ rfl;have x1:=hP.cell 1 _ rfl;have x2:=hP.cell 2 _ rfl;have x3:=hP.cell 3 _ rfl;have x4:=hP.cell 4 _ rfl;have y0:=hc.cell 0 _ rfl;have y1:=hc.cell 1 _ rfl;have y2:=hc.cell 2 _ rfl;have y3:=hc.cell 3 _ rfl;have y4:=hc.cell 4 _ rfl;have d0:=hd.cell 0 _ rfl;clear hR hP hc hd hv;by_cases h0:R=0
 ·have HA:Hid (AT=true):=Lib.hid (HAT.out.trans (decide_eq_true h0))
  have hb0:(R != 0)=false:=by simp[h0]
  clear HAT;go_enter Tryz.func261,Tryz.ntmps261
  go_wp2_with fail
  go_region_with (first
   |(go_at_call 85
     refine(HOR.out _).mono ?_;rintro e w5 ⟨rfl,hb5⟩;have HB5:=Lib.hid hb5;have HK5:=Lib.hid (HK.out.drew.below hb5);have d1:=(HD.out.drew.below hb5).cell 0 _ rfl;clear hb5)
   |(go_at_call 259
     refine(take1_any P _).mono ?_;rintro e w6 ⟨rfl,rfl⟩))
  all_goals
   go_wp2;go_ret;refine⟨?_,HK5.out,drew_grown (grown_of_below HB5.out _)⟩
   first
    |rfl
    |(rw[HA.out];rfl)
 ·have HA:Hid (AT=false):=Lib.hid (HAT.out.trans (decide_eq_false h0))
  have hb0:=bneT h0;clear HAT;go_enter Tryz.func261,Tryz.ntmps261
  go_wp2_with fail
  refine wp_region_held_drew (S:=(fun w'=>w'.cell? ⟨P,0,none⟩=some (.string (str x.e.key))∧w'.cell? ⟨P,1,none⟩=some (.int .i64 x.e.t)∧w'.cell? ⟨P,2,none⟩=some (.int .i64 x.e.s)∧w'.cell? ⟨P,3,none⟩=some (.slice A n k)∧w'.cell? ⟨P,4,none⟩=some (.bool x.e.met)∧w'.cell? ⟨c,0,none⟩=some (.string (str key))∧w'.cell? ⟨c,1,none⟩=some (.int .i64 t)∧w'.cell? ⟨c,2,none⟩=some (.int .i64 s)∧w'.cell? ⟨c,3,none⟩=some (.slice none 0 0)∧w'.cell? ⟨c,4,none⟩=some (.bool false))) (by kernel_rfl) (And.intro (x0) (And.intro (x1) (And.intro (x2) (And.intro (x3) (And.intro (x4) (And.intro (y0) (And.intro (y1) (And.intro (y2) (And.intro (y3) (y4)))))))))) (fun hHeld=> ?_);refine tk 0 ?_;refine tk 1 ?_;refine tk 2 ?_;refine tk 3 ?_;refine tc 4 ?_;intro K hK;go_simp;refine(HOR.out _).mono ?_;rintro e w5 ⟨rfl,hb5⟩;have HB5:=Lib.hid hb5;have K5:=HK.out.drew.below hb5;have C5:=HC.out.drew.below hb5;have HK5:=Lib.hid K5;have zz:=And.intro (K5.cell 0 _ rfl) (And.intro (K5.cell 1 _ rfl) (And.intro (K5.cell 2 _ rfl) (And.intro (K5.cell 3 _ rfl) (And.intro (K5.cell 4 _ rfl) (And.intro (C5.cell 0 _ rfl) (And.intro (C5.cell 1 _ rfl) (And.intro (C5.cell 2 _ rfl) (And.intro (C5.cell 3 _ rfl) (C5.cell 4 _ rfl)))))))))
  go_wp2_with fail
  refine hK.out _ _ zz (fun hHeld4=> ?_);clear hK K;refine tk 5 ?_;refine tk 6 ?_;refine tn 7 ?_;refine tn 8 ?_;refine tn 9 ?_;refine tk 10 ?_;refine tk 11 ?_;refine td ?_
  all_goals
   go_wp2;go_ret;refine⟨?_,HK5.out,drew_grown (grown_of_below HB5.out _)⟩
   first
    |rfl
    |(rw[HA.out];rfl)
end Go.Proofs.YtjodlngbiikgfaaGreatDoor
namespace Go.Proofs.YtjodlngbiikgfaaGreatDoor
open Go.RowKit Go.Shelf
theorem hasGood_any (b:Buf)(x:Ent)(w:World)(hb:b.ok w)(hg:GoodB b.bu):Calls Tryz.prog 144 #[b.agg,x.agg] w fun e w'=>e= .returned (.bool (isE b.bu.all x.e))∧Below w.heap.size w w':=
 has_any b x w hb (fun k=>by
  by_cases hk:k<b.runs.length+1
  ·exact hg.up _ (by rw[parts_eq];exact List.mem_map.2 ⟨k,List.mem_range.2 hk,rfl⟩)
  ·obtain⟨j,rfl⟩: ∃j,k=j+1:=⟨k-1,by omega⟩
   simp only[Buf.part,List.getElem?_eq_none (l:=b.runs) (i:=j) (by omega),Option.getD_none];exact .nil) (fun k=>by have h1:=part_len b k;have h2:=hg.few;omega)
theorem siftAt_any (g:Nat)(keep met:En→Bool)(b:Buf)(key:List UInt8)(t s:Int)(c d:Nat)(w:World)(hb:b.ok w)(hg:GoodB b.bu)
 (hc:Blk w c 63 #[.string (str key),.int .i64 t,.int .i64 s,.slice none 0 0,.bool false]) (hd:Blk w d 211 #[.func (.func g) #[] #[]])
 (hw: ∀(x:Ent) (W:World) (P c d:Nat),Blk W P 63 #[.string (str x.e.key),.int .i64 x.e.t,.int .i64 x.e.s,x.v,.bool x.e.met]→
  Blk W c 63 #[.string (str key),.int .i64 t,.int .i64 s,.slice none 0 0,.bool false]→Blk W d 211 #[.func (.func g) #[] #[]]→(∃A n k,x.v= .slice A n k)→
  Calls Tryz.prog 261 #[.pointer (some ⟨P,0,none⟩),.pointer (some ⟨c,0,none⟩),.pointer (some ⟨d,0,none⟩)] W fun e w2=>e= .returned (.bool (keep x.e))∧
   Blk w2 P 63 #[.string (str x.e.key),.int .i64 x.e.t,.int .i64 x.e.s,x.v,.bool (met x.e)]∧W.grownBy w2 (some P)):
 Calls Tryz.prog 142 #[b.agg,.func (.func 261) #[] #[.pointer (some ⟨c,0,none⟩),.pointer (some ⟨d,0,none⟩)]] w fun e w'=> ∃b':Buf,e= .returned b'.agg∧OwnBuf w' (w.heap.size+5) b'∧b'.bu=siftB b.bu (siftF keep met)∧Below w.heap.size w w'∧w.heap.size+5≤w'.heap.size:=
 sift_any 261 #[.pointer (some ⟨c,0,none⟩),.pointer (some ⟨d,0,none⟩)] keep met b w hb (fun k=>by have h1:=part_len b k;have h2:=hg.few;omega) (by have:=good_runs hg;omega) (fun k x hx=>okE_short (hg.ok _ (part_mem hx)))
  (enters_of Tryz.func261 (by kernel_rfl) rfl) (fun x W P h1 _ hs hB=>hw x W P c d hB (hc.below h1) (hd.below h1) (by obtain⟨A,k,e,-⟩:=hs;exact⟨A,_,k,e⟩))
set_option maxHeartbeats 8000000 in
set_option maxRecDepth 10000 in
theorem at_any (g:Nat)(keep met:En→Bool)(b:Buf)(key:List UInt8)(t s:Int)(w:World)(hb:b.ok w)(hf:b.fit)(hm:Mx w)
 (hw: ∀(x:Ent) (W:World) (P c d:Nat),Blk W P 63 #[.string (str x.e.key),.int .i64 x.e.t,.int .i64 x.e.s,x.v,.bool x.e.met]→
  Blk W c 63 #[.string (str key),.int .i64 t,.int .i64 s,.slice none 0 0,.bool false]→Blk W d 211 #[.func (.func g) #[] #[]]→(∃A n k,x.v= .slice A n k)→
  Calls Tryz.prog 261 #[.pointer (some ⟨P,0,none⟩),.pointer (some ⟨c,0,none⟩),.pointer (some ⟨d,0,none⟩)] W fun e w2=>e= .returned (.bool (keep x.e))∧
   Blk w2 P 63 #[.string (str x.e.key),.int .i64 x.e.t,.int .i64 x.e.s,x.v,.bool (met x.e)]∧W.grownBy w2 (some P)):
 Calls Tryz.prog 258 #[b.agg,.string (str key),.int .i64 t,.int .i64 s,.func (.func g) #[] #[]] w fun e w'=> ∃b':Buf,e= .returned (.tuple #[b'.agg,.int .i64 (atS b.bu key t s)])∧OwnBuf w' w.heap.size b'∧b'.bu=(if atS b.bu key t s=0 then siftB b.bu (siftF keep met)else noB)∧Below w.heap.size w w':=by
 have HO:=Lib.hid hb;have HCH:=Lib.hid (fun w' (h:Below w.heap.size w w')=>bcheck_any b w' (hb.below h) hf (hm.below h));have HHA:=Lib.hid (fun(hg:GoodB b.bu) w' (h:Below w.heap.size w w')=>hasGood_any b (placeE key t s) w' (hb.below h) hg);have HSI:=Lib.hid (fun(hg:GoodB b.bu) c d w' (h:Below w.heap.size w w') hc hd=>siftAt_any g keep met b key t s c d w' (hb.below h) hg hc hd hw);have HGD:=Lib.hid (check_zeroB (b:=b.bu));have HAS:Hid (atS b.bu key t s=if checkB b.bu≠0 then checkB b.bu else if isE b.bu.all (placeE key t s).e=true then 0 else 9):=Lib.hid rfl;generalize siftB b.bu (siftF keep met)=SS at HSI⊢;generalize atS b.bu key t s=AS at HAS⊢;obtain⟨SX,hSX⟩: ∃SX,(if AS=0 then SS else noB)=SX:=⟨_,rfl⟩;rw[hSX];have HSQ:=Lib.hid hSX;clear hSX;generalize checkB b.bu=CK at HCH HGD HAS;generalize isE b.bu.all (placeE key t s).e=IS at HHA HAS;obtain⟨Av,cv,hvb,-⟩:=id hb.mem.sl;obtain⟨Ar,cr,hvr,-⟩:=id hb.sl;unfold Buf.agg at HCH HSI HHA⊢;rw[placeE_agg]at HHA;rw[hvb,hvr]at HCH HSI HHA;rw[hvb,hvr];have HK0:=Lib.hid (((Blk.new w 29 #[.int .i64 b.limit,.slice Av b.mem.length cv,.slice Ar b.runs.length cr]).alloc (.cells #[.func (.func g) #[] #[]] 211)).alloc (.cells #[.int .i64 0,.slice none 0 0,.slice none 0 0] 29));have HK1:=Lib.hid ((new_second w 211 #[.func (.func g) #[] #[]] (.cells #[.int .i64 b.limit,.slice Av b.mem.length cv,.slice Ar b.runs.length cr] 29)).alloc (.cells #[.int .i64 0,.slice none 0 0,.slice none 0 0] 29))
 have HK2:=Lib.hid (show Blk (((w.alloc (.cells #[.int .i64 b.limit,.slice Av b.mem.length cv,.slice Ar b.runs.length cr] 29)).alloc (.cells #[.func (.func g) #[] #[]] 211)).alloc (.cells #[.int .i64 0,.slice none 0 0,.slice none 0 0] 29)) (w.heap.size+1+1) 29 #[.int .i64 0,.slice none 0 0,.slice none 0 0]from by
  have:=Blk.new ((w.alloc (.cells #[.int .i64 b.limit,.slice Av b.mem.length cv,.slice Ar b.runs.length cr] 29)).alloc (.cells #[.func (.func g) #[] #[]] 211)) 29 #[.int .i64 0,.slice none 0 0,.slice none 0 0];simpa using this)
 have hB:=below_trans (below_trans (below_alloc w (.cells #[.int .i64 b.limit,.slice Av b.mem.length cv,.slice Ar b.runs.length cr] 29)) (below_alloc _ (.cells #[.func (.func g) #[] #[]] 211))) (below_alloc _ (.cells #[.int .i64 0,.slice none 0 0,.slice none 0 0] 29));have y0:=HK0.out.cell 0 _ rfl;have y1:=HK0.out.cell 1 _ rfl;have y2:=HK0.out.cell 2 _ rfl;clear hb hf hm hw hvb hvr;go_enter Tryz.func258,Tryz.ntmps258
 go_wp2_with fail
 refine(HCH.out _ hB).mono ?_;rintro e w1 ⟨rfl,hb1⟩;have hbw1:=below_trans hB hb1;have HJ0:=Lib.hid (HK0.out.below hb1);have HJ1:=Lib.hid (HK1.out.below hb1);have HJ2:=Lib.hid (HK2.out.below hb1);clear y0 y1 y2 hB hb1 HK0 HK1 HK2 HCH;by_cases hck:CK=0
 ·have HGO:=Lib.hid (HGD.out.1 hck)
  have HAS2:=Lib.hid (HAS.out.trans (if_neg (fun h=>h hck)));subst hck;have y0:=HJ0.out.cell 0 _ rfl;have y1:=HJ0.out.cell 1 _ rfl;have y2:=HJ0.out.cell 2 _ rfl;have hbw2:=below_trans hbw1 (below_alloc w1 (.cells #[.string (str key),.int .i64 t,.int .i64 s,.slice none 0 0,.bool false] 63));have HL0:=Lib.hid (HJ0.out.alloc (.cells #[.string (str key),.int .i64 t,.int .i64 s,.slice none 0 0,.bool false] 63));have HL1:=Lib.hid (HJ1.out.alloc (.cells #[.string (str key),.int .i64 t,.int .i64 s,.slice none 0 0,.bool false] 63));have HL2:=Lib.hid (HJ2.out.alloc (.cells #[.string (str key),.int .i64 t,.int .i64 s,.slice none 0 0,.bool false] 63));have HL3:=Lib.hid (Blk.new w1 63 #[.string (str key),.int .i64 t,.int .i64 s,.slice none 0 0,.bool false]);have x0:=HL0.out.cell 0 _ rfl;have x1:=HL0.out.cell 1 _ rfl;have x2:=HL0.out.cell 2 _ rfl;have z0:=HL3.out.cell 0 _ rfl;have z1:=HL3.out.cell 1 _ rfl;have z2:=HL3.out.cell 2 _ rfl;have z3:=HL3.out.cell 3 _ rfl;have z4:=HL3.out.cell 4 _ rfl;have HHX:=Lib.hid (HHA.out HGO.out _ hbw2);clear HGD HHA HJ0 HJ1 HJ2 HAS
  go_wp2_with fail
  refine HHX.out.mono ?_;rintro e w3 ⟨rfl,hb3⟩;have hbw3:=below_trans hbw2 hb3;have HM0:=Lib.hid (HL0.out.below hb3);have HM1:=Lib.hid (HL1.out.below hb3);have HM2:=Lib.hid (HL2.out.below hb3);have HM3:=Lib.hid (HL3.out.below hb3);clear y0 y1 y2 x0 x1 x2 z0 z1 z2 z3 z4 hb3 HL0 HL1 HL2 HL3 HHX;cases IS with
  |true=>
   have HA0:Hid (AS=0):=Lib.hid (HAS2.out.trans (if_pos rfl));have HSX:=Lib.hid (HSI.out HGO.out w1.heap.size (w.heap.size+1) _ hbw3 HM3.out HM1.out);have y0:=HM0.out.cell 0 _ rfl;have y1:=HM0.out.cell 1 _ rfl;have y2:=HM0.out.cell 2 _ rfl;clear HAS2 HSI HM0 HM1 HM3
   go_wp2_with fail
   refine HSX.out.mono ?_;rintro e w4 ⟨b2,rfl,hob2,hE,hb4,-⟩;have hbw4:=below_trans hbw3 hb4;have hs3:=hbw3.size;obtain⟨Am,cm,hvm,-⟩:=id hob2.ok.mem.sl;obtain⟨Ar2,cr2,hvr2,-⟩:=id hob2.ok.sl;have HVM:=Lib.hid hvm;have HVR:=Lib.hid hvr2;rw[hvm,hvr2];have K2:=HM2.out.below hb4;have hlt:=HM2.out.lt;have f0:=K2.free 0;have f1:=K2.free 1;have f2:=K2.free 2;have r0:=K2.cell 0 _ rfl;have r1:=K2.cell 1 _ rfl;have r2:=K2.cell 2 _ rfl;have KZ:=K2.set3 (.int .i64 b2.limit) (.slice Am b2.mem.length cm) (.slice Ar2 b2.runs.length cr2);have z0:=KZ.cell 0 _ rfl;have z1:=KZ.cell 1 _ rfl;have z2:=KZ.cell 2 _ rfl;have hb9:=below_set3 hbw4 (g:=w.heap.size+1+1) (by omega) (.int .i64 b2.limit) (.slice Am b2.mem.length cm) (.slice Ar2 b2.runs.length cr2);have HOB:=Lib.hid ((hob2.set3 (g:=w.heap.size+1+1) (by omega) (.int .i64 b2.limit) (.slice Am b2.mem.length cm) (.slice Ar2 b2.runs.length cr2)).low (base':=w.heap.size) (by omega));clear y0 y1 y2 HSX hvm hvr2 K2 KZ hob2 hb4 HM2 hlt hs3;go_wp2;refine bodyPost_ret (v:= .tuple #[.agg #[.int .i64 b2.limit,.slice Am b2.mem.length cm,.slice Ar2 b2.runs.length cr2],.int .i64 0]) (by simp[results,Tryz.results258,go_sem,z0,z1,z2]) rfl ?_;exact⟨b2,by rw[HVM.out,HVR.out,HA0.out],HOB.out,by rw[hE,←HSQ.out,HA0.out];rfl,hb9⟩
  |false=>
   have HA0:Hid (AS=9):=Lib.hid (HAS2.out.trans (if_neg (by simp)));have f0:=HM2.out.free 0;have f1:=HM2.out.free 1;have f2:=HM2.out.free 2;have r0:=HM2.out.cell 0 _ rfl;have r1:=HM2.out.cell 1 _ rfl;have r2:=HM2.out.cell 2 _ rfl;have KZ:=HM2.out.set3 (.int .i64 0) (.slice none 0 0) (.slice none 0 0);have z0:=KZ.cell 0 _ rfl;have z1:=KZ.cell 1 _ rfl;have z2:=KZ.cell 2 _ rfl;have hb9:=below_set3 hbw3 (g:=w.heap.size+1+1) (by omega) (.int .i64 0) (.slice none 0 0) (.slice none 0 0);clear HAS2 HSI HM0 HM1 HM3 KZ;go_wp2;refine bodyPost_ret (v:= .tuple #[.agg #[.int .i64 0,.slice none 0 0,.slice none 0 0],.int .i64 9]) (by simp[results,Tryz.results258,go_sem,z0,z1,z2]) rfl ?_;exact⟨zB,by rw[HA0.out];rfl,OwnBuf.empty _ _ _,by rw[←HSQ.out,HA0.out];rfl,hb9⟩
 ·have HA0:Hid (AS=CK):=Lib.hid (HAS.out.trans (if_pos hck))
  have HSX:Hid (SX=noB):=Lib.hid (by rw[←HSQ.out,HA0.out];exact if_neg hck);have hb0:=bneT hck;have K2:=HJ2.out;have f0:=K2.free 0;have f1:=K2.free 1;have f2:=K2.free 2;have r0:=K2.cell 0 _ rfl;have r1:=K2.cell 1 _ rfl;have r2:=K2.cell 2 _ rfl;have KZ:=K2.set3 (.int .i64 0) (.slice none 0 0) (.slice none 0 0);have z0:=KZ.cell 0 _ rfl;have z1:=KZ.cell 1 _ rfl;have z2:=KZ.cell 2 _ rfl;have hb9:=below_set3 hbw1 (g:=w.heap.size+1+1) (by omega) (.int .i64 0) (.slice none 0 0) (.slice none 0 0);clear HGD K2 KZ HSI HAS hck HJ0 HJ1 HJ2;go_wp2;refine bodyPost_ret (v:= .tuple #[.agg #[.int .i64 0,.slice none 0 0,.slice none 0 0],.int .i64 CK]) (by simp[results,Tryz.results258,go_sem,z0,z1,z2]) rfl ?_;exact⟨zB,by rw[HA0.out];rfl,OwnBuf.empty _ _ _,by rw[HSX.out];exact zB_bu,hb9⟩
theorem meetB_sift (b:Bu)(key:List UInt8)(t s:Int):meetB b key t s=siftB b (siftF (fun _=>true) (fun e=>if atE key t s e=true then true else e.met)):=by
 unfold meetB
 congr 1
 funext e
 unfold siftF;rw[if_pos rfl];cases h:atE key t s e<;>simp[h]
theorem takeB_sift (b:Bu)(key:List UInt8)(t s:Int):takeB b key t s=siftB b (siftF (fun e=> !atE key t s e) (fun e=>e.met)):=by
 unfold takeB
 congr 1
 funext e
 unfold siftF;cases h:atE key t s e<;>simp[h]
set_option maxHeartbeats 8000000 in
set_option maxRecDepth 10000 in
theorem meet_anyB (b:Buf)(key:List UInt8)(t s:Int)(w:World)(hb:b.ok w)(hf:b.fit)(hm:Mx w):
 Calls Tryz.prog 257 #[b.agg,.string (str key),.int .i64 t,.int .i64 s] w fun e w'=> ∃b':Buf,e= .returned (.tuple #[b'.agg,.int .i64 (atS b.bu key t s)])∧OwnBuf w' w.heap.size b'∧b'.bu=(if atS b.bu key t s=0 then meetB b.bu key t s else noB)∧Below w.heap.size w w':=by
 have HAT:=Lib.hid (fun w' (h:Below w.heap.size w w')=>at_any 260 (fun _=>true) (fun e=>if atE key t s e=true then true else e.met) b key t s w' (hb.below h) hf (hm.below h) (fun x W P c d hP hc hd hv=>at1Meet_any key t s c d x W P hP hc hd hv));rw[←meetB_sift]at HAT;generalize meetB b.bu key t s=SS at HAT⊢;generalize atS b.bu key t s=AS at HAT⊢;generalize (if AS=0 then SS else noB)=SX at HAT⊢;obtain⟨Av,cv,hvb,-⟩:=id hb.mem.sl;obtain⟨Ar,cr,hvr,-⟩:=id hb.sl;unfold Buf.agg at HAT⊢;rw[hvb,hvr]at HAT;rw[hvb,hvr];have HK0:=Lib.hid (new_first w 29 #[.int .i64 b.limit,.slice Av b.mem.length cv,.slice Ar b.runs.length cr] (.cells #[.int .i64 0,.slice none 0 0,.slice none 0 0] 29));have HK1:=Lib.hid (new_second w 29 #[.int .i64 0,.slice none 0 0,.slice none 0 0] (.cells #[.int .i64 b.limit,.slice Av b.mem.length cv,.slice Ar b.runs.length cr] 29));have hB:=below_trans (below_alloc w (.cells #[.int .i64 b.limit,.slice Av b.mem.length cv,.slice Ar b.runs.length cr] 29)) (below_alloc _ (.cells #[.int .i64 0,.slice none 0 0,.slice none 0 0] 29));have y0:=HK0.out.cell 0 _ rfl;have y1:=HK0.out.cell 1 _ rfl;have y2:=HK0.out.cell 2 _ rfl;clear hb hf hm hvb hvr;go_enter Tryz.func257,Tryz.ntmps257
 go_wp2_with fail
 refine(HAT.out _ hB).mono ?_;rintro e w2 ⟨b2,rfl,hob2,hE,hb2⟩;have hbw2:=below_trans hB hb2;have hs2:=hB.size;obtain⟨Am,cm,hvm,-⟩:=id hob2.ok.mem.sl;obtain⟨Ar2,cr2,hvr2,-⟩:=id hob2.ok.sl;have HVM:=Lib.hid hvm;have HVR:=Lib.hid hvr2;rw[hvm,hvr2];have K2:=HK1.out.below hb2;have hlt:=HK1.out.lt;have f0:=K2.free 0;have f1:=K2.free 1;have f2:=K2.free 2;have r0:=K2.cell 0 _ rfl;have r1:=K2.cell 1 _ rfl;have r2:=K2.cell 2 _ rfl;have KZ:=K2.set3 (.int .i64 b2.limit) (.slice Am b2.mem.length cm) (.slice Ar2 b2.runs.length cr2);have z0:=KZ.cell 0 _ rfl;have z1:=KZ.cell 1 _ rfl;have z2:=KZ.cell 2 _ rfl;have hb9:=below_set3 hbw2 (g:=w.heap.size+1) (by omega) (.int .i64 b2.limit) (.slice Am b2.mem.length cm) (.slice Ar2 b2.runs.length cr2);have HOB:=Lib.hid ((hob2.set3 (g:=w.heap.size+1) hlt (.int .i64 b2.limit) (.slice Am b2.mem.length cm) (.slice Ar2 b2.runs.length cr2)).low (base':=w.heap.size) hs2);clear y0 y1 y2 HAT hvm hvr2 K2 KZ hob2 hb2 hB hlt hs2;go_wp2;refine bodyPost_ret (v:= .tuple #[.agg #[.int .i64 b2.limit,.slice Am b2.mem.length cm,.slice Ar2 b2.runs.length cr2],.int .i64 AS]) (by simp[results,Tryz.results257,go_sem,z0,z1,z2]) rfl ?_;exact⟨b2,by rw[HVM.out,HVR.out],HOB.out,hE,hb9⟩
set_option maxHeartbeats 8000000 in
set_option maxRecDepth 10000 in
theorem take_anyB (b:Buf)(key:List UInt8)(t s:Int)(w:World)(hb:b.ok w)(hf:b.fit)(hm:Mx w):
 Calls Tryz.prog 256 #[b.agg,.string (str key),.int .i64 t,.int .i64 s] w fun e w'=> ∃b':Buf,e= .returned (.tuple #[b'.agg,.int .i64 (atS b.bu key t s)])∧OwnBuf w' w.heap.size b'∧b'.bu=(if atS b.bu key t s=0 then takeB b.bu key t s else noB)∧Below w.heap.size w w':=by
 have HAT:=Lib.hid (fun w' (h:Below w.heap.size w w')=>at_any 259 (fun e=> !atE key t s e) (fun e=>e.met) b key t s w' (hb.below h) hf (hm.below h) (fun x W P c d hP hc hd hv=>at1Take_any key t s c d x W P hP hc hd hv));rw[←takeB_sift]at HAT;generalize takeB b.bu key t s=SS at HAT⊢;generalize atS b.bu key t s=AS at HAT⊢;generalize (if AS=0 then SS else noB)=SX at HAT⊢;obtain⟨Av,cv,hvb,-⟩:=id hb.mem.sl;obtain⟨Ar,cr,hvr,-⟩:=id hb.sl;unfold Buf.agg at HAT⊢;rw[hvb,hvr]at HAT;rw[hvb,hvr];have HK0:=Lib.hid (new_first w 29 #[.int .i64 b.limit,.slice Av b.mem.length cv,.slice Ar b.runs.length cr] (.cells #[.int .i64 0,.slice none 0 0,.slice none 0 0] 29));have HK1:=Lib.hid (new_second w 29 #[.int .i64 0,.slice none 0 0,.slice none 0 0] (.cells #[.int .i64 b.limit,.slice Av b.mem.length cv,.slice Ar b.runs.length cr] 29));have hB:=below_trans (below_alloc w (.cells #[.int .i64 b.limit,.slice Av b.mem.length cv,.slice Ar b.runs.length cr] 29)) (below_alloc _ (.cells #[.int .i64 0,.slice none 0 0,.slice none 0 0] 29));have y0:=HK0.out.cell 0 _ rfl;have y1:=HK0.out.cell 1 _ rfl;have y2:=HK0.out.cell 2 _ rfl;clear hb hf hm hvb hvr;go_enter Tryz.func256,Tryz.ntmps256
 go_wp2_with fail
 refine(HAT.out _ hB).mono ?_;rintro e w2 ⟨b2,rfl,hob2,hE,hb2⟩;have hbw2:=below_trans hB hb2;have hs2:=hB.size;obtain⟨Am,cm,hvm,-⟩:=id hob2.ok.mem.sl;obtain⟨Ar2,cr2,hvr2,-⟩:=id hob2.ok.sl;have HVM:=Lib.hid hvm;have HVR:=Lib.hid hvr2;rw[hvm,hvr2];have K2:=HK1.out.below hb2;have hlt:=HK1.out.lt;have f0:=K2.free 0;have f1:=K2.free 1;have f2:=K2.free 2;have r0:=K2.cell 0 _ rfl;have r1:=K2.cell 1 _ rfl;have r2:=K2.cell 2 _ rfl;have KZ:=K2.set3 (.int .i64 b2.limit) (.slice Am b2.mem.length cm) (.slice Ar2 b2.runs.length cr2);have z0:=KZ.cell 0 _ rfl;have z1:=KZ.cell 1 _ rfl;have z2:=KZ.cell 2 _ rfl;have hb9:=below_set3 hbw2 (g:=w.heap.size+1) (by omega) (.int .i64 b2.limit) (.slice Am b2.mem.length cm) (.slice Ar2 b2.runs.length cr2);have HOB:=Lib.hid ((hob2.set3 (g:=w.heap.size+1) hlt (.int .i64 b2.limit) (.slice Am b2.mem.length cm) (.slice Ar2 b2.runs.length cr2)).low (base':=w.heap.size) hs2);clear y0 y1 y2 HAT hvm hvr2 K2 KZ hob2 hb2 hB hlt hs2;go_wp2;refine bodyPost_ret (v:= .tuple #[.agg #[.int .i64 b2.limit,.slice Am b2.mem.length cm,.slice Ar2 b2.runs.length cr2],.int .i64 AS]) (by simp[results,Tryz.results256,go_sem,z0,z1,z2]) rfl ?_;exact⟨b2,by rw[HVM.out,HVR.out],HOB.out,hE,hb9⟩
end Go.Proofs.YtjodlngbiikgfaaGreatDoor
namespace Go.Proofs.YtjodlngbiikgfaaGreatDoor
theorem meet_all (b:Bu)(key:List UInt8)(t s:Int):(meetB b key t s).all=b.all.map fun e=>if atE key t s e=true then{e with met:=true}else e:=by
 unfold meetB;rw[siftB_all]
 induction b.all with
 |nil=>rfl
 |cons x l ih=>rw[List.flatMap_cons,ih,List.map_cons];rfl
theorem meet_good {b:Bu}(h:GoodB b)(key:List UInt8)(t s:Int):GoodB (meetB b key t s):=by rw[meetB_sift];exact sift_good h
theorem sift_mem {b:Bu}{keep met:En→Bool}{P:En→Prop}(hP: ∀e m,P e→P {e with met:=m})(h: ∀e∈b.all,P e): ∀e∈(siftB b (siftF keep met)).all,P e:=by
 intro e he;rw[siftB_all]at he;obtain⟨x,hx,hy⟩:=List.mem_flatMap.1 he;obtain⟨-,h2⟩:=mem_siftF hy;rw[h2];exact hP x _ (h x hx)
theorem fine_met {e:En}(m:Bool)(h:FineE e):FineE {e with met:=m}:=⟨h.row,h.time,h.seq,h.key,h.len⟩
theorem meet_fine {b:Bu}(h: ∀e∈b.all,FineE e)(key:List UInt8)(t s:Int): ∀e∈(meetB b key t s).all,FineE e:=by
 rw[meetB_sift];exact sift_mem (fun e m h=>fine_met m h) h
theorem meet_isE (b:Bu)(key:List UInt8)(t s:Int)(x:En):isE (meetB b key t s).all x=isE b.all x:=by
 rw[meet_all];unfold isE;rw[List.any_map]
 congr 1
 funext e
 simp only[Function.comp];split<;>rfl
theorem touch_snoc (b:Bu)(l:List En)(e:En):touchB b (l++[e])=meetB (touchB b l) e.key e.t e.s:=by unfold touchB;rw[List.foldl_append];rfl
theorem touch_good: ∀(l:List En) {b:Bu},GoodB b→GoodB (touchB b l)
 |[],_,h=>h
 |e::l,b,h=>touch_good l (b:=meetB b e.key e.t e.s) (meet_good h _ _ _)
theorem touch_fine: ∀(l:List En) {b:Bu},(∀e∈b.all,FineE e)→ ∀e∈(touchB b l).all,FineE e
 |[],_,h=>h
 |e::l,b,h=>touch_fine l (b:=meetB b e.key e.t e.s) (meet_fine h _ _ _)
theorem touch_isE: ∀(l:List En) (b:Bu) (x:En),isE (touchB b l).all x=isE b.all x
 |[],_,_=>rfl
 |e::l,b,x=>(touch_isE l (meetB b e.key e.t e.s) x).trans (meet_isE _ _ _ _ _)
theorem isE_of {l:List En}{e:En}(h:e∈l):isE l ⟨e.key,e.t,e.s,[],false⟩=true:=by
 unfold isE;rw[List.any_eq_true];exact⟨e,h,by simp[cmpE_zero]⟩
theorem at_of {b:Bu}(hg:GoodB b){e:En}(h:isE b.all ⟨e.key,e.t,e.s,[],false⟩=true):atS b e.key e.t e.s=0:=by
 unfold atS;rw[if_neg (by rw[check_zeroB.2 hg];exact fun h=>h rfl),if_pos h]
theorem touch_at {b:Bu}(hg:GoodB b){e:En}(he:e∈b.all)(l:List En):atS (touchB b l) e.key e.t e.s=0:=
 at_of (touch_good l hg) (by rw[touch_isE];exact isE_of he)
theorem scan_mem {b:Bu}(hg:GoodB b){key:List UInt8}{f u:Int}{e:En}(h:e∈scanL b key f u):e∈b.all:=(sortE_perm hg.alone).mem_iff.1 (List.mem_filter.1 h).1
theorem scan_len {b:Bu}(hg:GoodB b)(key:List UInt8)(f u:Int):(scanL b key f u).length≤4096:=by
 have h1:(scanL b key f u).length≤(sortE b.all).length:=List.length_filter_le _ _;have h2:=(sortE_perm hg.alone).length_eq;have h3:=hg.few;omega
theorem Jv.buf_bu (s:Jv)(F:Int):(s.buf F).bu=s.jn.buf F:=by unfold Jv.buf Jn.buf;split<;>rfl
theorem Jv.put_jn (s:Jv)(F:Int)(b:Buf):(s.put F b).jn=s.jn.put F b.bu:=by unfold Jv.put Jn.put;split<;>rfl
theorem Jv.put_buf (s:Jv)(F:Int)(b:Buf):(s.put F b).buf F=b:=by unfold Jv.buf Jv.put;split<;>rfl
theorem Jv.put_far (s:Jv)(F:Int)(b:Buf){G:Int}(h:(F=1∧G=2)∨(F=2∧G=1)):(s.put F b).buf G=s.buf G:=by
 rcases h with⟨rfl,rfl⟩|⟨rfl,rfl⟩<;>rfl
theorem Jv.put_twice (s:Jv)(F:Int)(a b:Buf):(s.put F a).put F b=s.put F b:=by unfold Jv.put;split<;>rfl
theorem Jv.put_same (s:Jv)(F:Int):s.put F (s.buf F)=s:=by unfold Jv.put Jv.buf;split<;>rfl
theorem Jv.put_marks (s:Jv)(F:Int)(b:Buf):(s.put F b).lm=s.lm∧(s.put F b).rm=s.rm∧(s.put F b).seq=s.seq:=by unfold Jv.put;split<;>exact⟨rfl,rfl,rfl⟩
theorem WkG.put {s:Jv}(h:WkG s)(F:Int){b:Buf}(hb:GoodB b.bu)(hf: ∀e∈b.bu.all,FineE e):WkG (s.put F b):=by
 unfold Jv.put;split
 ·exact⟨h.l,hb,h.fl,hf⟩
 ·exact⟨hb,h.r,hf,h.fr⟩
theorem WkG.fine {s:Jv}(h:WkG s)(F:Int): ∀e∈(s.buf F).bu.all,FineE e:=by
 unfold Jv.buf;split
 ·exact h.fr
 ·exact h.fl
theorem take_snoc {α:Type}{l:List α}{k:Nat}{x:α}(h:l[k]?=some x):l.take (k+1)=l.take k++[x]:=by
 obtain⟨h1,h2⟩:=List.getElem?_eq_some_iff.1 h;rw[List.take_add_one,h];rfl
end Go.Proofs.YtjodlngbiikgfaaGreatDoor
