/-Groups: the law GroupAlways. (Printed by genga6.py.) -/
import Derived.Test.YtjhbeecmdgglgaaGreatDoorGrpV35
import Derived.Test.YtjhbeecmdgglgaaGreatDoorGrpV36
import Derived.Test.YtjhbeecmdgglgaaGreatDoorGrpV20
import Derived.Test.YtjhbeecmdgglgaaGreatDoorGrpV39
import Derived.Test.YtjhbeecmdgglgaaGreatDoorGrpV19
import Derived.Test.YtjhbeecmdgglgaaGreatDoorGrpV7
import Derived.Test.YtjhbeecmdgglgaaGreatDoorGrpV9
set_option linter.unusedSimpArgs false
set_option linter.unusedVariables false
namespace Go.Proofs.YtjhbeecmdgglgaaGreatDoor
open Go.RowKit
set_option maxHeartbeats 16000000 in
set_option maxRecDepth 10000 in
theorem groupAlways_walk (p:Pl)(u:Value)(l:List Chn)(cut:Int)(w:World)(h:p.ok w)(hf:p.fit)(hC:Chs w u l)(hCf:FineC l)(hcut: -9223372036854775808≤cut∧cut≤9223372036854775807)(hm:Mx w):
 Calls Tryz.prog 9 #[.agg #[.int .i64 p.kind,.int .i64 p.mode,.int .i64 p.low,.int .i64 p.high,.int .i64 p.size,.int .i64 p.limit,p.vl,p.vr,p.vk,p.vq,.bool p.grouped,p.vg,p.va],u,.int .i64 cut] w fun e w'=>e= .returned (.bool true)∧Below w.heap.size w w':=by
 have HM:=Lib.hid hm;have HS:=Lib.hid hC;have HFM:=Lib.hid hCf;have HGR:=Lib.hid (fun(W:World) (hb:Below w.heap.size w W) (vv:Value) (L:List Cnt) (hV:View W vv L) (hfv:FineV L)=>bgroup_any p vv L W (h.below hb) hf hV hfv (hm.below hb));have HSTP:=Lib.hid (fun(W:World) (hb:Below w.heap.size w W) (vv:Value) (G:List Gm) (uu:Value) (L:List Chn) (hG:Gms W vv G) (hGf: ∀x∈G,x.fit) (hL:Chs W uu L) (hLf:FineC L)=>gstep_any p vv G uu L W (h.below hb) hf hG hGf hL hLf (hm.below hb));have HVW:=Lib.hid (fun(W:World) (hb:Below w.heap.size w W) (vv:Value) (G:List Gm) (hG:Gms W vv G) (hGf: ∀x∈G,x.fit)=>gview_any p vv G W (h.below hb) hf hG hGf (hm.below hb));obtain⟨Au,cu,rfl,mu1,mu2,-⟩:=id hC.sl;unfold maxLen at mu2;obtain⟨A0,c0,h0,-⟩:=h.l;obtain⟨A1,c1,h1,-⟩:=h.r;obtain⟨A2,c2,h2,-⟩:=h.k;obtain⟨A3,c3,h3,-⟩:=h.q;obtain⟨A4,c4,h4,-⟩:=h.g;obtain⟨A5,c5,h5,-⟩:=h.a;rw[h0,h1,h2,h3,h4,h5]at HGR HSTP HVW⊢
 have hne:IntKind.i64.wrap ((l.length:Int)+1)≠0∧ -9223372036854775808≤IntKind.i64.wrap ((l.length:Int)+1)∧IntKind.i64.wrap ((l.length:Int)+1)≤9223372036854775807∧(l.length≤4096→IntKind.i64.wrap ((l.length:Int)+1)=(l.length:Int)+1):=by
  rw[IntKind.wrap_i64];refine⟨?_,?_,?_,?_⟩<;>omega
 have HCH:=Lib.hid (fun W=>choose_any cut _ W hcut ⟨hne.2.1,hne.2.2.1⟩ hne.1);have HNE:=Lib.hid hne.2.2.2;generalize hwn:IntKind.i64.wrap ((l.length:Int)+1)=N at HCH HNE;have hB:=below_alloc w (.cells #[.int .i64 p.kind,.int .i64 p.mode,.int .i64 p.low,.int .i64 p.high,.int .i64 p.size,.int .i64 p.limit,.slice A0 p.left.length c0,.slice A1 p.right.length c1,.slice A2 p.lkeys.length c2,.slice A3 p.rkeys.length c3,.bool p.grouped,.slice A4 p.group.length c4,.slice A5 p.aggs.length c5] 25);have K0:=Blk.new w 25 #[.int .i64 p.kind,.int .i64 p.mode,.int .i64 p.low,.int .i64 p.high,.int .i64 p.size,.int .i64 p.limit,.slice A0 p.left.length c0,.slice A1 p.right.length c1,.slice A2 p.lkeys.length c2,.slice A3 p.rkeys.length c3,.bool p.grouped,.slice A4 p.group.length c4,.slice A5 p.aggs.length c5];have HFO:=Lib.hid (fun W (hb:Below w.heap.size w W)=>cfold_any (.slice none 0 0) (.slice Au l.length cu) [] l W (View.nil _) ⟨nofun,nofun⟩ (hC.below hb) hCf (hm.below hb));have HF1:=Lib.hid (fun(l1:List Cnt) (h:av l1=(foldS [] l).1)=>foldS_fine hCf h);have HGA:=Lib.hid (fun(l1:List Cnt) (k:Nat) (h1:av l1=(foldS [] l).1) (hy:(foldS [] l).2.2=0)=>ga_facts (p:=p) (m:=l) (k:=k) (foldS_fine hCf h1) hCf hy h1);have HIN:=Lib.hid (fun(hy:(foldS [] l).2.2=0)=>(foldS_ok (l:=[]) ⟨nofun,nofun⟩ hCf hy).2.1.few);clear h hf hC hCf hm h0 h1 h2 h3 h4 h5 hne hcut;generalize foldS [] l=S at HFO HF1 HGA HIN;obtain⟨SA,SP,SE⟩:=S;simp only at HFO HF1 HGA HIN;go_enter Tryz.func9,Tryz.ntmps9
 go_wp2_with fail
 refine Calls.mono (by with_reducible exact HFO.out _ hB) ?_;rintro e w1 ⟨v1,l1,rfl,hV1,ha1,hb1'⟩;have HV1:=Lib.hid hV1;have HA1:=Lib.hid ha1;have HK1:=Lib.hid (K0.below hb1');have hb1:=below_trans hB hb1';clear hV1 ha1 hb1' hB K0 HFO;obtain⟨z0,z1,z2,z3,z4,z5,z6,z7,z8,z9,z10,z11,z12⟩:=pl_cells HK1.out;have HG1:=Lib.hid (HGR.out w1 hb1 v1 l1 HV1.out (HF1.out l1 HA1.out));obtain⟨GE,hGE⟩: ∃y,groupE p l1=y:=⟨_,rfl⟩;rw[hGE]at HG1;have HGE:=Lib.hid hGE;clear hGE
 go_wp2_with fail
 refine Calls.mono (by with_reducible exact HG1.out) ?_;rintro e w2 ⟨v2,l2,rfl,hV2,ha2,hb2'⟩;have HV2:=Lib.hid hV2;have HA2:=Lib.hid ha2;have HK2:=Lib.hid (HK1.out.below hb2');have hb2:=below_trans hb1 hb2';clear z0 z1 z2 z3 z4 z5 z6 z7 z8 z9 z10 z11 z12;clear hV2 ha2 hb2' hb1 HG1
 go_wp2_with fail
 refine Calls.mono (by with_reducible exact HCH.out _) ?_;rintro e w3 ⟨ki,rfl,hki,hb3'⟩;have hb3:=below_trans hb2 hb3';have HK3:=Lib.hid (HK2.out.below hb3');have HV3:=Lib.hid (HV2.out.below hb3');clear hb3' hb2 HV2 HK2;by_cases hy:SE=0
 case neg=>
  have q1:=bneT hy;clear hy hki
  go_wp2_with fail
  refine(groupBegun_any _ (HM.out.below hb3)).mono ?_;rintro e wz ⟨rfl,hbz⟩;have BZ:=below_trans hb3 hbz;clear hbz;go_wp2;go_ret;exact⟨rfl,BZ⟩
 by_cases hge:GE=0
 case neg=>
  have q1:=bneF hy;have q2:=bneT hge;clear hy hge hki
  go_wp2_with fail
  refine(groupBegun_any _ (HM.out.below hb3)).mono ?_;rintro e wz ⟨rfl,hbz⟩;have BZ:=below_trans hb3 hbz;clear hbz;go_wp2;go_ret;exact⟨rfl,BZ⟩
 have q1:=bneF hy;have q2:=bneF hge;have hfew:l.length≤4096:=HIN.out hy;have hN:N=(l.length:Int)+1:=HNE.out hfew;obtain⟨hk0,hk1⟩:=hki (by omega);obtain⟨k,rfl⟩:=Int.eq_ofNat_of_zero_le hk0;have hkm:k≤l.length:=by omega
 have hk2:(k:Int)≤(cu:Int):=by omega
 have hk3:(k:Int)≤(l.length:Int):=by omega
 have HGB:=Lib.hid (HGA.out l1 k HA1.out hy (HGE.out.trans hge) hkm);have HW:=Lib.hid (HA2.out.trans (if_pos hge));have HT:=Lib.hid ((HS.out.take hkm).below hb3);have HFT:=Lib.hid (fine_take HFM.out k);have HCF:=Lib.hid (fun W (hb:Below w3.heap.size w3 W)=>cform_any _ (l.take k) W (HT.out.below hb) HFT.out (HM.out.below (below_trans hb3 hb)));obtain⟨FE,hFE⟩: ∃y,formC (l.take k)=y:=⟨_,rfl⟩;rw[hFE]at HCF HGB;clear hki hk1 hN hwn hk0 hy hge hFE HGA HIN HNE HCH HF1 HGR HA2 HGE
 go_wp2_with fail
 refine Calls.mono (by with_reducible exact HCF.out _ (Below.refl _ _)) ?_;rintro e w4 ⟨rfl,hb4'⟩;have hb4:=below_trans hb3 hb4';have HK4:=Lib.hid (HK3.out.below hb4');have HV4:=Lib.hid (HV3.out.below hb4');have HT4:=Lib.hid (HT.out.below hb4');clear hb4' hb3 HV3 HK3 HT HCF;by_cases hft:FE=0
 case neg=>
  have q3:=bneT hft;clear hft
  go_wp2_with fail
  refine(groupBegun_any _ (HM.out.below hb4)).mono ?_;rintro e wz ⟨rfl,hbz⟩;have BZ:=below_trans hb4 hbz;clear hbz;go_wp2;go_ret;exact⟨rfl,BZ⟩
 have q3:=bneF hft;obtain⟨hp,hgrp,hgaf⟩:=HGB.out hft;have HP:=Lib.hid hp;have HGP:=Lib.hid hgrp;have hy0:Below w4.heap.size w4 w4.drew:=(Below.refl _ w4).drew;have hb5:=below_trans hb4 hy0;have HKD:=Lib.hid (HK4.out.below hy0);have HS1:=Lib.hid (HSTP.out w4.drew hb5 (.slice none 0 0) [] _ (l.take k) (Gms.nil _) (by intro x hx;cases hx) (HT4.out.below hy0) HFT.out);rw[show gps []=[]from rfl]at HS1;generalize stepG p [] (l.take k)=s1 at HS1 hgaf;obtain⟨G9,L9,Q⟩:=s1;have HGAF:=Lib.hid hgaf;have HV5:=Lib.hid (HV4.out.below hy0);clear hp hgrp hgaf hft HGB hy0 HV4 HK4 HT4 hb4
 go_upto_region 6 with fail
 refine tr (S:=(fun w'=>w'.cell? ⟨w.heap.size,0,none⟩=some (.int .i64 p.kind)∧w'.cell? ⟨w.heap.size,1,none⟩=some (.int .i64 p.mode)∧w'.cell? ⟨w.heap.size,2,none⟩=some (.int .i64 p.low)∧w'.cell? ⟨w.heap.size,3,none⟩=some (.int .i64 p.high)∧w'.cell? ⟨w.heap.size,4,none⟩=some (.int .i64 p.size)∧w'.cell? ⟨w.heap.size,5,none⟩=some (.int .i64 p.limit)∧w'.cell? ⟨w.heap.size,6,none⟩=some (.slice A0 p.left.length c0)∧w'.cell? ⟨w.heap.size,7,none⟩=some (.slice A1 p.right.length c1)∧w'.cell? ⟨w.heap.size,8,none⟩=some (.slice A2 p.lkeys.length c2)∧w'.cell? ⟨w.heap.size,9,none⟩=some (.slice A3 p.rkeys.length c3)∧w'.cell? ⟨w.heap.size,10,none⟩=some (.bool p.grouped)∧w'.cell? ⟨w.heap.size,11,none⟩=some (.slice A4 p.group.length c4)∧w'.cell? ⟨w.heap.size,12,none⟩=some (.slice A5 p.aggs.length c5))) (pl_cells HKD.out) (fun hHeld=> ?_);refine tk 0 ?_;refine tk 1 ?_;refine tk 2 ?_;refine tk 3 ?_;refine tc 4 ?_;intro K hK;go_simp;refine Calls.mono (by with_reducible exact HS1.out) ?_;rintro e w6 ⟨v6,u6,G6,l6,rfl,hs6,hc6,hg6,ha6,hb6⟩
 go_wp2_with fail
 refine hK.out _ _ (pl_cells (HKD.out.below hb6)) (fun hHeld4=> ?_);clear hK K;refine tk 5 ?_;refine tk 6 ?_;refine tk 7 ?_;refine tk 8 ?_;refine tk 9 ?_;refine tk 10 ?_;refine tk 11 ?_;refine td ?_;have hb6':=below_trans hb5 hb6;have HV6:=Lib.hid (HV5.out.below hb6);have HK6:=Lib.hid (HKD.out.below hb6);have HGS6:=Lib.hid hs6;have HCS6:=Lib.hid hc6;have HGG6:=Lib.hid hg6;have HAC6:=Lib.hid ha6;clear hs6 hc6 hg6 ha6 hb6 hb5 HV5 HKD HS1;rcases HGAF.out with(hq|hq)|hst
 case inl.inl=>
  subst hq;clear HGAF
  go_wp2_with fail
  refine(groupBegun_any _ (HM.out.below hb6')).mono ?_;rintro e wz ⟨rfl,hbz⟩;have BZ:=below_trans hb6' hbz;clear hbz;go_wp2;go_ret;exact⟨rfl,BZ⟩
 case inl.inr=>
  subst hq;clear HGAF
  go_wp2_with fail
  refine(groupBegun_any _ (HM.out.below hb6')).mono ?_;rintro e wz ⟨rfl,hbz⟩;have BZ:=below_trans hb6' hbz;clear hbz;go_wp2;go_ret;exact⟨rfl,BZ⟩
 obtain⟨qz,g1,g2,g3,g4⟩:=hst;simp only at qz g1 g2 g3 g4;subst qz;have HFIT:=Lib.hid (fit_good HP.out HGP.out (by rw[HGG6.out];exact g1));have HX1:=Lib.hid (fun W (hb:Below w6.heap.size w6 W)=>HVW.out W (below_trans hb6' hb) v6 G6 (HGS6.out.below hb) HFIT.out);rw[HGG6.out,g2,g3]at HX1;have hy0:Below w6.heap.size w6 w6.drew:=(Below.refl _ w6).drew;have hb7':=below_trans hb6' hy0;have HKE:=Lib.hid (HK6.out.below hy0);have HD0:=Lib.hid ((HS.out.drop hkm).below hb7');have HFD:=Lib.hid (fine_drop HFM.out k);have HG4:=Lib.hid g4;clear g1 g2 g3 g4 HGAF
 go_wp2_with fail
 go_upto_region 9 with fail
 have HV7:=Lib.hid (HV6.out.below hy0);have HGS7:=Lib.hid (HGS6.out.below hy0);have HCS7:=Lib.hid (HCS6.out.below hy0);have hck:=Classical.em (cu=k);rcases hck with hck|hck
 case' inl=>
  obtain rfl:k=cu:=hck.symm;rw[if_pos rfl,Nat.sub_self,show l.length-k=0 by omega]at HD0;have hckb:((k:Int)==(k:Int))=true:=by simp
 case' inr=>
  rw[if_neg hck]at HD0;have hckb:((cu:Int)==(k:Int))=false:=by simp;omega
 all_goals
  have HS2:=Lib.hid (HSTP.out w6.drew hb7' v6 G6 _ (l.drop k) HGS7.out HFIT.out HD0.out HFD.out);rw[HGG6.out]at HS2;generalize stepG p G9 (l.drop k)=s2 at HS2 HG4;obtain⟨G10,L10,Q2⟩:=s2;simp only at HG4;refine tr (S:=(fun w'=>w'.cell? ⟨w.heap.size,0,none⟩=some (.int .i64 p.kind)∧w'.cell? ⟨w.heap.size,1,none⟩=some (.int .i64 p.mode)∧w'.cell? ⟨w.heap.size,2,none⟩=some (.int .i64 p.low)∧w'.cell? ⟨w.heap.size,3,none⟩=some (.int .i64 p.high)∧w'.cell? ⟨w.heap.size,4,none⟩=some (.int .i64 p.size)∧w'.cell? ⟨w.heap.size,5,none⟩=some (.int .i64 p.limit)∧w'.cell? ⟨w.heap.size,6,none⟩=some (.slice A0 p.left.length c0)∧w'.cell? ⟨w.heap.size,7,none⟩=some (.slice A1 p.right.length c1)∧w'.cell? ⟨w.heap.size,8,none⟩=some (.slice A2 p.lkeys.length c2)∧w'.cell? ⟨w.heap.size,9,none⟩=some (.slice A3 p.rkeys.length c3)∧w'.cell? ⟨w.heap.size,10,none⟩=some (.bool p.grouped)∧w'.cell? ⟨w.heap.size,11,none⟩=some (.slice A4 p.group.length c4)∧w'.cell? ⟨w.heap.size,12,none⟩=some (.slice A5 p.aggs.length c5))) (pl_cells HKE.out) (fun hHeld=> ?_);refine tk 0 ?_;refine tk 1 ?_;refine tk 2 ?_;refine tk 3 ?_;refine tk 4 ?_;refine tc 5 ?_;intro K hK;go_simp;refine Calls.mono (by with_reducible exact HS2.out) ?_;rintro e w7 ⟨v7,u7,G7,l7,rfl,hs7,hc7,hg7,ha7,hb7⟩
  go_wp2_with fail
  refine hK.out _ _ (pl_cells (HKE.out.below hb7)) (fun hHeld5=> ?_);clear hK K;refine tk 6 ?_;refine tk 7 ?_;refine tk 8 ?_;refine tk 9 ?_;refine tk 10 ?_;refine tk 11 ?_;refine tk 12 ?_;refine td ?_;have hb8:=below_trans hb7' hb7;have HV8:=Lib.hid (HV7.out.below hb7);have HK8:=Lib.hid (HKE.out.below hb7);have HGS8:=Lib.hid hs7;have HCS8:=Lib.hid hc7;have HGG8:=Lib.hid hg7;have HAC8:=Lib.hid ha7;have HX2:=Lib.hid (HX1.out w7 (below_trans hy0 hb7));have HO1:=Lib.hid (HCS7.out.below hb7);clear hs7 hc7 hg7 ha7 hb7 HV7 HKE HS2 HX1 HV6 HK6 HGS6 HCS6 HGS7 HCS7 HD0 hb6' hb7' hy0 HS HFM HFD HFT;rcases HG4.out with(hq|hq)|hst
  ·subst hq
   clear HG4
   go_wp2_with fail
   refine(groupBegun_any _ (HM.out.below hb8)).mono ?_;rintro e wz ⟨rfl,hbz⟩;have BZ:=below_trans hb8 hbz;clear hbz;go_wp2;go_ret;exact⟨rfl,BZ⟩
  ·subst hq
   clear HG4
   go_wp2_with fail
   refine(groupBegun_any _ (HM.out.below hb8)).mono ?_;rintro e wz ⟨rfl,hbz⟩;have BZ:=below_trans hb8 hbz;clear hbz;go_wp2;go_ret;exact⟨rfl,BZ⟩
  obtain⟨qz,g1,g2,g3,g4,g5,g6⟩:=hst;simp only at qz g1 g2 g3 g4 g5 g6;subst qz;have HFIT2:=Lib.hid (fit_good HP.out HGP.out (by rw[HGG8.out];exact g1));have HY:=Lib.hid (fun W (hb:Below w7.heap.size w7 W)=>HVW.out W (below_trans hb8 hb) v7 G7 (HGS8.out.below hb) HFIT2.out);rw[HGG8.out,g2,g3,g4]at HY;have HW4:=Lib.hid g4;obtain⟨o1,o2⟩:=g5 l6 HAC6.out;have HN1:=Lib.hid (fun W (hb:Below w7.heap.size w7 W)=>cfold_any (.slice none 0 0) u6 [] l6 W (View.nil _) ⟨nofun,nofun⟩ (HO1.out.below hb) o1 (HM.out.below (below_trans hb8 hb)));rw[o2]at HN1;have HN2:=Lib.hid (fun W (hb:Below w7.heap.size w7 W) (vm:Value) (lm:List Cnt) (hV:View W vm lm) (hl:av lm=VG p G9)=>And.intro (g6 lm l7 hl HAC8.out).2.2 (cfold_any vm u7 lm l7 W hV (g6 lm l7 hl HAC8.out).1 (HCS8.out.below hb) (g6 lm l7 hl HAC8.out).2.1 (HM.out.below (below_trans hb8 hb))));clear g1 g2 g3 g4 g5 g6 o1 o2 HG4;obtain⟨z0,z1,z2,z3,z4,z5,z6,z7,z8,z9,z10,z11,z12⟩:=pl_cells HK8.out
  go_wp2_with fail
  refine Calls.mono (by with_reducible exact HX2.out) ?_;rintro e w8 ⟨v8,l8,rfl,hV8,ha8,hb8'⟩;have HVX:=Lib.hid hV8;have HAX:=Lib.hid ha8;have HKF:=Lib.hid (HK8.out.below hb8');clear z0 z1 z2 z3 z4 z5 z6 z7 z8 z9 z10 z11 z12;clear hV8 ha8 HX2 HK8;obtain⟨z0,z1,z2,z3,z4,z5,z6,z7,z8,z9,z10,z11,z12⟩:=pl_cells HKF.out
  go_wp2_with fail
  refine Calls.mono (by with_reducible exact HY.out _ hb8') ?_;rintro e w9 ⟨v9,l9,rfl,hV9,ha9,hb9'⟩;have HVY:=Lib.hid hV9;have HAY:=Lib.hid ha9;have hb9:=below_trans hb8' hb9';have HVX9:=Lib.hid (HVX.out.below hb9');clear z0 z1 z2 z3 z4 z5 z6 z7 z8 z9 z10 z11 z12;clear hV9 ha9 hb8' hb9' HY HKF HVX
  go_wp2_with fail
  refine Calls.mono (by with_reducible exact HN1.out _ hb9) ?_;rintro e wa ⟨va,la,rfl,hVa,haa,hba'⟩;have HVM:=Lib.hid hVa;have HAM:=Lib.hid (show av la=VG p G9 from haa);have hba:=below_trans hb9 hba';have HVXa:=Lib.hid (HVX9.out.below hba');have HVYa:=Lib.hid (HVY.out.below hba');have HN3:=Lib.hid (HN2.out wa hba va la HVM.out HAM.out).2;rw[(HN2.out wa hba va la HVM.out HAM.out).1]at HN3;clear hVa haa hb9 hba' HN1 HN2 HVX9 HVY
  go_wp2_with fail
  refine Calls.mono (by with_reducible exact HN3.out) ?_;rintro e wb ⟨vb,lb,rfl,hVb,hab,hbb'⟩;have hbb:=below_trans (below_trans hb8 hba) hbb';have HVWB:=Lib.hid (HV8.out.below (below_trans hba hbb'));have HSM:=Lib.hid (fun W (hb:Below wb.heap.size wb W)=>sameViews_any va v8 la l8 W ((HVM.out.below hbb').below hb) ((HVXa.out.below hbb').below hb) (HAM.out.trans HAX.out.symm));have HSN:=Lib.hid (fun W (hb:Below wb.heap.size wb W)=>sameViews_any vb v9 lb l9 W (hVb.below hb) ((HVYa.out.below hbb').below hb) ((show av lb=VG p G10 from hab).trans (HW4.out.trans HAY.out.symm)));have HSW:=Lib.hid (fun W (hb:Below wb.heap.size wb W)=>sameViews_any v9 v2 l9 l2 W ((HVYa.out.below hbb').below hb) (HVWB.out.below hb) (HAY.out.trans HW.out.symm));clear hVb hab hbb' hba HN3 HVM HVXa HVYa HV8 hb8
  go_wp2_with fail
  refine(groupBegun_any _ (HM.out.below hbb)).mono ?_;rintro e wc ⟨rfl,hbc⟩;have BC:=below_trans hbb hbc
  go_wp2_with fail
  refine Calls.mono (by with_reducible exact HSM.out _ hbc) ?_;rintro e wd ⟨rfl,hbd⟩;have BD:=below_trans BC hbd;have hbd:=below_trans hbc hbd;clear hbc BC
  go_wp2_with fail
  refine Calls.mono (by with_reducible exact HSN.out _ hbd) ?_;rintro e we ⟨rfl,hbe⟩;have BE:=below_trans BD hbe;have hbe:=below_trans hbd hbe;clear hbd BD
  go_wp2_with fail
  refine Calls.mono (by with_reducible exact HSW.out _ hbe) ?_;rintro e wf ⟨rfl,hbf⟩;have BF:=below_trans BE hbf;clear hbe BE hbf;go_wp2;go_ret;exact⟨rfl,BF⟩
end Go.Proofs.YtjhbeecmdgglgaaGreatDoor
