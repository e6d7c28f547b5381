/-Groups: the reference's fitsTypes of any row. Groups: the reference's StepGroups. (Printed by gengrp32.py.) The reference's SameChanges. Groups: the l -/
import Derived.Test.YtblhidmkalleoaaGreatDoorGrpT25
import Derived.Test.YtblhidmkalleoaaGreatDoorGrpT23
import Derived.Test.YtblhidmkalleoaaGreatDoorGrpT24
import Derived.Test.YtblhidmkalleoaaGreatDoorGrpT33
import Derived.Test.YtblhidmkalleoaaGreatDoorGrpT35
import Derived.Test.YtblhidmkalleoaaGreatDoorGrpT36
import Derived.Test.YtblhidmkalleoaaGreatDoorGrpT38
import Derived.Test.YtblhidmkalleoaaGreatDoorGrpT6
import Derived.Test.YtblhidmkalleoaaGreatDoorGrpT5
import Derived.Test.YtblhidmkalleoaaGreatDoorGrpT8
import Derived.Test.YtblhidmkalleoaaGreatDoorGrpT31
import Derived.Test.YtblhidmkalleoaaGreatDoorGrpT30
import Derived.SizedLaws
import Derived.Deep.Fields
set_option linter.unusedSimpArgs false
set_option linter.unusedVariables false
namespace Go.Proofs.YtblhidmkalleoaaGreatDoor
open Go.RowKit
set_option maxHeartbeats 1000000 in
theorem rfitsE_any (vt v:Value)(t:List Int)(r:List Val)(w:World)(ht:Sl w vt t.length (intCells t))(hr:Sl w v r.length (rowCells r)):
 Calls Tryz.prog 58 #[vt,v] w fun e w'=>e= .returned (.int .i64 (fitE t r))∧Below w.heap.size w w':=by
 by_cases h:r.length=t.length
 ·have e:fitE t r=if allB fitOne (t.zip r)then 0 else 5:=by unfold fitE;rw[if_neg (by omega)]
  rw[e];exact fitsTypes_any vt v t r w ht hr h
 ·have E:=Lib.hid (fit_len h)
  obtain⟨At,ct,rfl,-⟩:=ht;obtain⟨Ar,cr,rfl,-⟩:=hr;have hne:((r.length:Int)==(t.length:Int))=false:=beqF (by omega);have hne':=bne_of hne;simp only[Bool.not_false]at hne';go_enter Tryz.func58,Tryz.ntmps58
  go_wp2;go_ret;exact⟨ret_int E.out.symm,Below.refl _ _⟩
end Go.Proofs.YtblhidmkalleoaaGreatDoor
namespace Go.Proofs.YtblhidmkalleoaaGreatDoor
open Go.RowKit
set_option maxHeartbeats 8000000 in
set_option maxRecDepth 10000 in
theorem rstep_any (p:Pl)(v:Value)(G:List Gm)(u:Value)(l:List Chn)(w:World)(h:p.ok w)(hG:Gms w v G)(hGf: ∀x∈G,x.fit)(hC:Chs w u l)(hCf:FineC l):
 Calls Tryz.prog 22 #[.agg #[.int .i64 p.kind,.int .i64 p.mode,.int .i64 p.low,.int .i64 p.high,.int .i64 p.size,.int .i64 p.limit,p.vl,p.vr,p.vk,p.vq,.bool p.grouped,p.vg,p.va],v,u] w fun e w'=> ∃v' u' G' l',e= .returned (.tuple #[v',u',.int .i64 (stepG p (gps G) l).2.2])∧Gms w' v' G'∧Chs w' u' l'∧gps G'=(stepG p (gps G) l).1∧ac l'=(stepG p (gps G) l).2.1∧Below w.heap.size w w':=by
 have HP:=Lib.hid h;have HG:=Lib.hid hG;have HCC:=Lib.hid hC;have HCK:=Lib.hid (fun W (hb:Below w.heap.size w W)=>rgcheck_any p v G W (h.below hb) (hG.below hb) hGf);have HFO:=Lib.hid (fun W (hb:Below w.heap.size w W)=>crform_any u l W (hC.below hb) hCf);have HTY:=Lib.hid (fun W (hb:Below w.heap.size w W) (hz:checkP p=0)=>types_any p W (h.below hb) (by have c:=(counts_short (check_ok hz).2.2.1).l2;omega) (by have c:=(counts_short (check_ok hz).2.2.1).r2;omega));have HTF:=Lib.hid (fun W (hb:Below w.heap.size w W) (c:Chn) (hc:c∈l) vt (ht:Sl W vt (allT p).length (intCells (allT p)))=>rfitsE_any vt c.v (allT p) c.r W ht ((hC.rows c hc).below hb))
 have HZ:=Lib.hid (fun(hz:checkG p (gps G)=0)=>(check_zeroG (p:=p) (G:=gps G) (fun g hg=>by
  obtain⟨x,hx,rfl⟩:=List.mem_map.1 hg;exact(hGf x hx).fine)).1 hz)
 have HFZ:=Lib.hid (fun(hz:formC l=0)=>form_zero hCf hz)
 have HST:Hid (stepG p (gps G) l=if checkG p (gps G)≠0 then([],[],checkG p (gps G))else if formC l≠0 then([],[],formC l)else if typesG p (ac l)≠0 then([],[],typesG p (ac l))
  else if(turnAll p (gps G) (ac l)).2≠0 then([],[],(turnAll p (gps G) (ac l)).2)else((turnAll p (gps G) (ac l)).1,changedG p (gps G) (turnAll p (gps G) (ac l)).1,0)):=Lib.hid rfl
 generalize stepG p (gps G) l=SG at HST⊢;obtain⟨A0,c0,h0,n0,m0,-⟩:=id h.l;obtain⟨A1,c1,h1,n1,m1,-⟩:=id h.r;obtain⟨A2,c2,h2,n2,m2,-⟩:=id h.k;obtain⟨A3,c3,h3,n3,m3,-⟩:=id h.q;obtain⟨A4,c4,h4,n4,m4,-⟩:=id h.g;obtain⟨A5,c5,h5,n5,m5,-⟩:=id h.a;obtain⟨Au,cu,rfl,nu,mu,-⟩:=id hC.sl;obtain⟨Ag,cg,rfl,ng,mg,-⟩:=id hG.sl;unfold maxLen at mu mg;rw[h0,h1,h2,h3,h4,h5]at HCK HTY⊢;have HVA:Hid (p.va= .slice A5 p.aggs.length c5):=Lib.hid h5;have HVG:Hid (p.vg= .slice A4 p.group.length c4):=Lib.hid h4;have HV0:=Lib.hid h0;have HV1:=Lib.hid h1;have HV2:=Lib.hid h2;have HV3:=Lib.hid h3;have HB:=Lib.hid (below_alloc w (.cells #[.int .i64 p.kind,.int .i64 p.mode,.int .i64 p.low,.int .i64 p.high,.int .i64 p.size,.int .i64 p.limit,.slice A0 p.left.length c0,.slice A1 p.right.length c1,.slice A2 p.lkeys.length c2,.slice A3 p.rkeys.length c3,.bool p.grouped,.slice A4 p.group.length c4,.slice A5 p.aggs.length c5] 25));have HK0:=Lib.hid (Blk.new w 25 #[.int .i64 p.kind,.int .i64 p.mode,.int .i64 p.low,.int .i64 p.high,.int .i64 p.size,.int .i64 p.limit,.slice A0 p.left.length c0,.slice A1 p.right.length c1,.slice A2 p.lkeys.length c2,.slice A3 p.rkeys.length c3,.bool p.grouped,.slice A4 p.group.length c4,.slice A5 p.aggs.length c5]);obtain⟨W1,hW1⟩: ∃V,w.alloc (.cells #[.int .i64 p.kind,.int .i64 p.mode,.int .i64 p.low,.int .i64 p.high,.int .i64 p.size,.int .i64 p.limit,.slice A0 p.left.length c0,.slice A1 p.right.length c1,.slice A2 p.lkeys.length c2,.slice A3 p.rkeys.length c3,.bool p.grouped,.slice A4 p.group.length c4,.slice A5 p.aggs.length c5] 25)=V:=⟨_,rfl⟩;rw[hW1]at HB HK0;have hb1:=HB.out;clear h h0 h1 h2 h3 h4 h5 n0 n1 n2 n3 n4 n5 m0 m1 m2 m3 m4 m5 hG hGf hC hCf;obtain⟨E1,hE1⟩: ∃y,checkG p (gps G)=y:=⟨_,rfl⟩;obtain⟨E2,hE2⟩: ∃y,formC l=y:=⟨_,rfl⟩;rw[hE1]at HCK HZ HST;rw[hE2]at HFO HFZ HST;clear hE1 hE2;obtain⟨z0,z1,z2,z3,z4,z5,z6,z7,z8,z9,z10,z11,z12⟩:=pl_cells HK0.out;go_enter Tryz.func22,Tryz.ntmps22
 go_upto_region 1 with fail
 try rw[hW1]
 clear hW1
 go_wp2_with fail
 refine Calls.mono (by with_reducible exact HCK.out _ hb1) ?_;rintro e w2 ⟨rfl,hb2⟩;have hbw2:=below_trans hb1 hb2;clear z0 z1 z2 z3 z4 z5 z6 z7 z8 z9 z10 z11 z12;by_cases hq1:E1=0
 case neg=>
  have q1:=bneT hq1;have HE:Hid (SG=([],[],E1)):=Lib.hid (by rw[HST.out,if_pos hq1]);clear hq1;go_wp2;refine bodyPost_ret (v:= .tuple #[.slice none 0 0,.slice none 0 0,.int .i64 E1]) (by simp[results,Tryz.results22,go_sem]) rfl ?_;exact⟨_,_,[],[],by rw[HE.out],Gms.nil _,Chs.nil _,by rw[HE.out];rfl,by rw[HE.out];rfl,hbw2⟩
 have q1:=bneF hq1;have HQ1:=Lib.hid hq1;clear hq1
 go_wp2_with fail
 refine Calls.mono (by with_reducible exact HFO.out _ hbw2) ?_;rintro e w3 ⟨rfl,hb3⟩;have hbw3:=below_trans hbw2 hb3;by_cases hq2:E2=0
 case neg=>
  have q2:=bneT hq2;have HE:Hid (SG=([],[],E2)):=Lib.hid (by rw[HST.out,if_neg (by simp[HQ1.out]),if_pos hq2]);clear hq2;go_wp2;refine bodyPost_ret (v:= .tuple #[.slice none 0 0,.slice none 0 0,.int .i64 E2]) (by simp[results,Tryz.results22,go_sem]) rfl ?_;exact⟨_,_,[],[],by rw[HE.out],Gms.nil _,Chs.nil _,by rw[HE.out];rfl,by rw[HE.out];rfl,hbw3⟩
 have q2:=bneF hq2;have HQ2:=Lib.hid hq2;clear hq2;obtain⟨hcp,hgr,hgood⟩:=HZ.out HQ1.out;have HCP:=Lib.hid hcp;have HGR:=Lib.hid hgr;have HGD:=Lib.hid hgood;clear hcp hgr hgood;have hk2:=HK0.out.below (below_trans hb2 hb3);obtain⟨z0,z1,z2,z3,z4,z5,z6,z7,z8,z9,z10,z11,z12⟩:=pl_cells hk2
 go_wp2_with fail
 refine Calls.mono (by with_reducible exact HTY.out _ hbw3 HCP.out) ?_;rintro e w4 ⟨va,rfl,hsa,-,hb4⟩;have hbw4:=below_trans hbw3 hb4;obtain⟨At,ct,rfl,nt,mt,-⟩:=id hsa;unfold maxLen at mt;have HSA:=Lib.hid hsa;have HB4:=Lib.hid hbw4;have HB14:=Lib.hid (below_trans (below_trans hb2 hb3) hb4);clear hsa hk2;clear z0 z1 z2 z3 z4 z5 z6 z7 z8 z9 z10 z11 z12
 go_wp2_with fail
 go_loopw[12] (fun iv wr=> ∃i:Nat,i≤l.length∧iv= .int .i64 i∧Hid (∀x∈l.take i,fitE (allT p) x.r=0)∧Below w4.heap.size w4 wr) (fun iv _=>l.length-(intOf iv).toNat)
 case atStart=>exact⟨0,by omega,rfl,Lib.hid (fun x hx=>by simp at hx),Below.refl _ _⟩
 case round=>
  rename World=>wr1
  obtain⟨i,hi,rfl,HPR,hbr⟩:=hrel;have hbwr:=below_trans HB4.out hbr;by_cases hlt:i<l.length
  ·have hx:=List.getElem?_eq_getElem (l:=l) hlt
   generalize l[i]=x at hx;have hxm:=List.mem_of_getElem? hx;obtain⟨bx,ox,hAx,-,hcx⟩:=chn_at HCC.out.sl rfl hx;subst hAx;obtain⟨e0,e1⟩:=hcx _ hbwr;obtain⟨Ax,cx,ev,nx,mx,-⟩:=id (HCC.out.rows x hxm);unfold maxLen at mx;rw[ev]at e1;have HX:=Lib.hid hx;have i0:(0:Int)≤(i:Int):=by omega
   have i1:(i:Int)<(l.length:Int):=by omega
   have HCL:=Lib.hid (HTF.out wr1 hbwr x hxm _ (HSA.out.below hbr));rw[ev]at HCL;rw[List.length_append]at HCL;clear hx hxm hcx ev;obtain⟨F,hF⟩: ∃y,fitE (allT p) x.r=y:=⟨_,rfl⟩;rw[hF]at HCL;have HF:=Lib.hid hF;clear hF
   go_wp2_with fail
   refine Calls.mono (by with_reducible exact HCL.out) ?_;rintro e w6 ⟨rfl,hb6⟩;have hbw6:=below_trans hbr hb6;by_cases hf0:F=0
   ·have q3:=bneF hf0
    have HPN:Hid (∀y∈l.take (i+1),fitE (allT p) y.r=0):=Lib.hid (fun y hy=>by
     rw[List.take_add_one,HX.out]at hy;rcases List.mem_append.1 hy with hy|hy
     ·exact HPR.out y hy
     ·rw[show y=x by simpa using hy,HF.out]
      exact hf0)
    go_wp2_with fail
    go_roundw
    case rel=>
     first
      |exact⟨i+1,by omega,by go_num,HPN,hbw6⟩
      |((repeat apply Exists.intro);exact⟨⟨i+1,by omega,by go_num,HPN,hbw6⟩,rfl⟩)
    case measure=>simp[intOf];omega
   ·have q3:=bneT hf0
    have HE:Hid (SG=([],[],F)):=Lib.hid (by
     have h5:=HF.out;rw[HST.out,if_neg (by simp[HQ1.out]),if_neg (by simp[HQ2.out]),types_bad HPR.out HX.out (by rw[h5];exact hf0),h5,if_pos hf0])
    have hb9:=below_trans HB4.out hbw6;clear hf0;go_wp2;refine bodyPost_ret (v:= .tuple #[.slice none 0 0,.slice none 0 0,.int .i64 F]) (by simp[results,Tryz.results22,go_sem]) rfl ?_;exact⟨_,_,[],[],by rw[HE.out],Gms.nil _,Chs.nil _,by rw[HE.out];rfl,by rw[HE.out];rfl,hb9⟩
  ·obtain rfl:i=l.length:=by omega
   have hft: ∀x∈l,fitE (allT p) x.r=0:=by have:=HPR.out;rw[List.take_length]at this;exact this
   have HTG:Hid (∀c∈l,TypedG p c.r):=Lib.hid (fun c hc=>fit_zero ((HFZ.out HQ2.out).good c hc).1 (hft c hc));have HKN:Hid (∀c∈l,1≤c.k∧c.k≤4):=Lib.hid (fun c hc=>((HFZ.out HQ2.out).good c hc).2)
   have HS2:Hid (SG=if(turnAll p (gps G) (ac l)).2≠0 then([],[],(turnAll p (gps G) (ac l)).2)else((turnAll p (gps G) (ac l)).1,changedG p (gps G) (turnAll p (gps G) (ac l)).1,0)):=Lib.hid (by
    rw[HST.out,if_neg (by simp[HQ1.out]),if_neg (by simp[HQ2.out]),if_neg (by rw[types_ok hft];simp)])
   clear hft;have HGF:Hid (∀x∈G,x.r.length≤1099511627776∧x.bags.length≤1000000∧ ∀q∈x.bags,q.2.length≤1099511627776):=Lib.hid (fun x hx=>⟨by have:=(HGD.out.each x.gp (gps_mem hx)).row.few;show x.gp.r.length≤_;omega,good_lens HCP.out HGR.out HGD.out x hx⟩);have HOW:=Lib.hid (fun W (hb:Below w.heap.size w W)=>rown_any (.slice Ag G.length cg) G W (HG.out.below hb) HGF.out (by have:=HGD.out.few;rw[gps_len]at this;omega))
   go_wp2_with fail
   refine Calls.mono (by with_reducible exact HOW.out _ hbwr) ?_;rintro e wa ⟨v5,L5,rfl,hL5,hg5,hba⟩;have hbwa:=below_trans hbwr hba;have HL5:=Lib.hid hL5;have HG5:=Lib.hid hg5;have HBWA:=Lib.hid hbwa;have HBA1:=Lib.hid (Below.refl wa.heap.size wa);clear hL5 hg5 hbwa;have HTA:=Lib.hid (fun(W:World) v' (L':List Gm) (c:Chn) (hc:c∈l) (hb:Below wr1.heap.size wr1 W) (hL:OGs W wr1.heap.size v' L') (hG:GoodGs p (gps L'))=>rturn_any p c.k v' c.v c.r L' wr1 W (HP.out.below hbwr) HCP.out HGR.out hb hL hG (HKN.out c hc) (HTG.out c hc) ((HCC.out.rows c hc).below hbwr));rw[HV0.out,HV1.out,HV2.out,HV3.out,HVG.out,HVA.out]at HTA
   go_wp2_with fail
   go_loopw[14,15] (fun ov iv wr=> ∃(i:Nat) (L':List Gm),i≤l.length∧iv= .int .i64 i∧Hid (OGs wr wr1.heap.size ov L')∧Hid (GoodGs p (gps L'))∧Hid (turnAll p (gps G) (ac l)=turnAll p (gps L') ((ac l).drop i))∧Below wr1.heap.size wr1 wr) (fun _ iv _=>l.length-(intOf iv).toNat)
   case atStart=>exact⟨0,L5,by omega,rfl,HL5,Lib.hid (by rw[HG5.out];exact HGD.out),Lib.hid (by rw[HG5.out];rfl),hba⟩
   case round=>
    rename World=>wr2
    obtain⟨i,L',hi,rfl,HO,HGD2,HTT,hbr2⟩:=hrel;have hbw9:=below_trans hbwr hbr2;by_cases hlt:i<l.length
    ·have hx:=List.getElem?_eq_getElem (l:=l) hlt
     generalize l[i]=x at hx;have hxm:=List.mem_of_getElem? hx;obtain⟨bx,ox,hAx,-,hcx⟩:=chn_at HCC.out.sl rfl hx;subst hAx;obtain⟨Ax,cx,ev,nx,mx,-⟩:=id (HCC.out.rows x hxm);have HX:=Lib.hid hx;have i0:(0:Int)≤(i:Int):=by omega
     have i1:(i:Int)<(l.length:Int):=by omega
     have hy0:Below wr2.heap.size wr2 wr2.drew:=(Below.refl _ wr2).drew;have HTX:=Lib.hid (HTA.out wr2.drew _ L' x hxm (below_trans hbr2 hy0) (HO.out.below hy0) HGD2.out);have HTN:=Lib.hid (turnAll_at (p:=p) (G:=gps L') (acG_at hx));have HTG2:=Lib.hid (fun h0=>turn_good (p:=p) (c:=(x.k,x.r)) HCP.out HGR.out HGD2.out (HTG.out x hxm) h0);have HRB:Hid (∀V,Turned (OBk _ L') wr2.drew V→Below wr1.heap.size wr1 V):=Lib.hid (fun V ht=>below_turned (below_trans hbr2 hy0) ht (fun k hk=>(HO.out.range hk).1));obtain⟨A9,n9,c9,hov⟩:=own_slice HO.out.own;subst hov;rw[ev]at HTX;have HSS:=Lib.hid (fun V (hb:Below W1.heap.size W1 V) (hb2:Below w.heap.size w V)=>And.intro (pl_cells (HK0.out.below hb)) (And.intro (hcx V hb2).1 (ev▸(hcx V hb2).2)));obtain⟨TG,hTG⟩: ∃y,turnG p (gps L') (x.k,x.r)=y:=⟨_,rfl⟩;rw[hTG]at HTX HTN HTG2;clear hTG;obtain⟨G2,C2⟩:=TG;have HS19:=Lib.hid (HSS.out _ (below_trans HB14.out (below_trans hbr (below_trans hbr2 hy0))) (below_trans hbw9 hy0))
     go_upto_region 19 with fail
     refine tr (S:=(fun w'=>(w'.cell? ⟨w.heap.size,0,none⟩=some (.int .i64 p.kind)∧w'.cell? ⟨w.heap.size,1,none⟩=some (.int .i64 p.mode)∧w'.cell? ⟨w.heap.size,2,none⟩=some (.int .i64 p.low)∧w'.cell? ⟨w.heap.size,3,none⟩=some (.int .i64 p.high)∧w'.cell? ⟨w.heap.size,4,none⟩=some (.int .i64 p.size)∧w'.cell? ⟨w.heap.size,5,none⟩=some (.int .i64 p.limit)∧w'.cell? ⟨w.heap.size,6,none⟩=some (.slice A0 p.left.length c0)∧w'.cell? ⟨w.heap.size,7,none⟩=some (.slice A1 p.right.length c1)∧w'.cell? ⟨w.heap.size,8,none⟩=some (.slice A2 p.lkeys.length c2)∧w'.cell? ⟨w.heap.size,9,none⟩=some (.slice A3 p.rkeys.length c3)∧w'.cell? ⟨w.heap.size,10,none⟩=some (.bool p.grouped)∧w'.cell? ⟨w.heap.size,11,none⟩=some (.slice A4 p.group.length c4)∧w'.cell? ⟨w.heap.size,12,none⟩=some (.slice A5 p.aggs.length c5))∧(w'.cell? ⟨bx,ox+i*2,none⟩=some (.int .i64 x.k)∧w'.cell? ⟨bx,ox+i*2+1,none⟩=some (.slice Ax x.r.length cx)))) HS19.out (fun hHeld=> ?_);refine tk 0 ?_;refine tk 1 ?_;refine tk 2 ?_;refine tk 3 ?_;refine tk 4 ?_;refine tk 5 ?_;refine tc 6 ?_;intro K hK;go_simp;refine Calls.mono (by with_reducible exact HTX.out) ?_;rintro e w7 ⟨v7,rfl,ht7,hx7⟩;have hbz7:=HRB.out _ ht7
     go_wp2_with fail
     refine hK.out _ _ (HSS.out _ (below_trans HB14.out (below_trans hbr hbz7)) (below_trans hbwr hbz7)) (fun hHeld6=> ?_);clear hK K;refine tk 7 ?_;refine tk 8 ?_;refine tk 9 ?_;refine tk 10 ?_;refine tk 11 ?_;refine td ?_;clear HS19 HSS HTX;by_cases hc2:C2=0
     ·have q5:=bneF hc2
      obtain⟨L7,HTQ,hg7⟩:=hx7 hc2;have HO7:=Lib.hid HTQ.gs;have HGD7:Hid (GoodGs p (gps L7)):=Lib.hid (by rw[hg7];exact HTG2.out hc2);have HTT7:Hid (turnAll p (gps G) (ac l)=turnAll p (gps L7) ((ac l).drop (i+1))):=Lib.hid (by rw[HTT.out,HTN.out,if_pos hc2,hg7]);clear hx7 HTQ hg7 hc2 ht7
      go_wp2_with fail
      go_roundw
      case rel=>
       first
        |exact⟨i+1,L7,by omega,by go_num,HO7,HGD7,HTT7,hbz7⟩
        |((repeat apply Exists.intro);exact⟨⟨i+1,L7,by omega,by go_num,HO7,HGD7,HTT7,hbz7⟩,rfl⟩)
      case measure=>simp[intOf];omega
     ·have q5:=bneT hc2
      have HE:Hid (SG=([],[],C2)):=Lib.hid (by
       rw[HS2.out,HTT.out,HTN.out,if_neg hc2,if_pos hc2])
      have hb9:=below_trans hbwr hbz7;clear hx7 hc2 ht7;go_wp2;refine bodyPost_ret (v:= .tuple #[.slice none 0 0,.slice none 0 0,.int .i64 C2]) (by simp[results,Tryz.results22,go_sem]) rfl ?_;exact⟨_,_,[],[],by rw[HE.out],Gms.nil _,Chs.nil _,by rw[HE.out];rfl,by rw[HE.out];rfl,hb9⟩
    ·obtain rfl:i=l.length:=by omega
     have HE:Hid (SG=(gps L',changedG p (gps G) (gps L'),0)):=Lib.hid (by
      have:=turnAll_end (p:=p) (G:=gps L') (l:=ac l);rw[acG_len]at this;rw[HS2.out,HTT.out,this];simp)
     obtain⟨A9,n9,c9,rfl⟩:=own_slice HO.out.own;have HCH:=Lib.hid (rchanged_any p (.slice Ag G.length cg) (.slice A9 n9 c9) G L' wr2 (HP.out.below hbw9) (HG.out.below hbw9) HO.out.gms HCP.out HGR.out HGD.out HGD2.out);rw[HV0.out,HV1.out,HV2.out,HV3.out,HVG.out,HVA.out]at HCH;have hk9:=HK0.out.below (below_trans HB14.out (below_trans hbr hbr2));obtain⟨z0,z1,z2,z3,z4,z5,z6,z7,z8,z9,z10,z11,z12⟩:=pl_cells hk9;clear hk9
     go_wp2_with fail
     refine Calls.mono (by with_reducible exact HCH.out) ?_;rintro e w9 ⟨v9,l9,rfl,hs9,ha9,hb9⟩;have hbz:=below_trans hbw9 hb9;have HSR:=Lib.hid hs9;have HAR:=Lib.hid ha9;obtain⟨B9,d9,rfl,-⟩:=id hs9.sl;clear z0 z1 z2 z3 z4 z5 z6 z7 z8 z9 z10 z11 z12 hs9 ha9;have HGR9:=Lib.hid (HO.out.gms.below hb9);go_wp2;refine bodyPost_ret (v:= .tuple #[.slice A9 n9 c9,.slice B9 l9.length d9,.int .i64 0]) (by simp[results,Tryz.results22,go_sem]) rfl ?_;exact⟨_,_,L',l9,by rw[HE.out],HGR9.out,HSR.out,by rw[HE.out],by rw[HE.out];exact HAR.out,hbz⟩
end Go.Proofs.YtblhidmkalleoaaGreatDoor
namespace Go.Proofs.YtblhidmkalleoaaGreatDoor
open Go.RowKit
theorem ac_sames {a b:List Chn}(h:ac a=ac b):a.length=b.length:=by
 have:=congrArg List.length h;simpa[ac]using this
theorem ac_both {a b:List Chn}(h:ac a=ac b){k:Nat}{x y:Chn}(ha:a[k]?=some x)(hb:b[k]?=some y):x.r=y.r∧x.k=y.k:=by
 have h1:(ac a)[k]?=some (x.k,x.r):=by unfold ac;rw[List.getElem?_map,ha];rfl
 have h2:(ac b)[k]?=some (y.k,y.r):=by unfold ac;rw[List.getElem?_map,hb];rfl
 rw[h,h2]at h1;have:=Option.some.inj h1;exact⟨(congrArg Prod.snd this).symm,(congrArg Prod.fst this).symm⟩
set_option maxHeartbeats 4000000 in
set_option maxRecDepth 10000 in
theorem sameChanges_any (va vb:Value)(a b:List Chn)(w:World)(ha:Chs w va a)(hb:Chs w vb b)(hab:ac a=ac b):
 Calls Tryz.prog 24 #[va,vb] w fun e w'=>e= .returned (.bool true)∧Below w.heap.size w w':=by
 have HA:=Lib.hid ha;have HB:=Lib.hid hb;have HAB:=Lib.hid hab;have hlen:=ac_sames hab;obtain⟨A,c,rfl,h1,h2,-⟩:=ha.sl;obtain⟨A2,c2,rfl,h3,h4,-⟩:=hb.sl;clear ha hb hab;unfold maxLen at h2 h4;have b2:((a.length:Int)==(b.length:Int))=true:=by simp[hlen]
 have b2':=bne_of b2;simp only[Bool.not_true]at b2';have HLEN:=Lib.hid hlen;clear hlen;go_enter Tryz.func24,Tryz.ntmps24
 go_wp2_with fail
 go_loopw[5] (fun i wr=> ∃k:Nat,k≤a.length∧i= .int .i64 k∧Below w.heap.size w wr) (fun i _=>a.length-(intOf i).toNat)
 case atStart=>exact⟨0,by omega,rfl,Below.refl _ _⟩
 case round=>
  obtain⟨k,hk,rfl,hbw⟩:=hrel;by_cases hlt:k<a.length
  ·have hltb:k<b.length:=by have:=HLEN.out;omega
   have hx:=List.getElem?_eq_getElem (l:=a) hlt;generalize a[k]=x at hx;have hy:=List.getElem?_eq_getElem (l:=b) hltb;generalize b[k]=y at hy;obtain⟨e1,e2⟩:=ac_both HAB.out hx hy;obtain⟨g,off,rfl,-,hc⟩:=chn_at HA.out.sl rfl hx;obtain⟨g',off',rfl,-,hc'⟩:=chn_at HB.out.sl rfl hy;have HC:=Lib.hid hc;have HC':=Lib.hid hc';obtain⟨d1,d2⟩:=hc _ hbw;obtain⟨d3,d4⟩:=hc' _ hbw;have HRX:=Lib.hid (HA.out.rows x (List.mem_of_getElem? hx));have HRY:=Lib.hid (HB.out.rows y (List.mem_of_getElem? hy));clear hx hy hc hc';obtain⟨xv,xr,xn⟩:=x;obtain⟨yv,yr,yn⟩:=y;simp only at d1 d2 d3 d4 HRX HRY e1 e2 HC HC';subst e1 e2;obtain⟨Ax,cx,rfl,-⟩:=id HRX.out;obtain⟨Ay,cy,rfl,-⟩:=id HRY.out;have k0:(0:Int)≤(k:Int):=by omega
   have k1:(k:Int)<(a.length:Int):=by omega
   have k2:(k:Int)<(b.length:Int):=by have:=HLEN.out;omega
   have hn:(xn != xn)=false:=by simp
   go_wp2_with fail
   go_region_held3 (fun w'=>w'.cell? ⟨g,off+k*2,none⟩=some (.int .i64 xn)∧w'.cell? ⟨g,off+k*2+1,none⟩=some (.slice Ax xr.length cx)∧w'.cell? ⟨g',off'+k*2,none⟩=some (.int .i64 xn)∧w'.cell? ⟨g',off'+k*2+1,none⟩=some (.slice Ay xr.length cy))
    (first|go_keep|exact⟨d1,d2,d3,d4⟩|exact z2)
    ((go_at_call 41
      refine(same_any _ _ xr xr _ ((HRX.out.below hbw).drew) ((HRY.out.below hbw).drew)).mono ?_;rw[(sameR_iff xr xr).2 rfl];rintro e w2 ⟨rfl,hb2⟩;have hbw2:=below_trans hbw.drew hb2;have z2:=And.intro (HC.out _ hbw2).1 (And.intro (HC.out _ hbw2).2 (HC'.out _ hbw2))))
   all_goals
    go_wp2;go_roundw
    case rel=>exact⟨k+1,by omega,by go_num,hbw2⟩
    case measure=>simp[intOf];omega
  ·obtain rfl:k=a.length:=by omega
   go_wp2;go_ret;exact⟨rfl,hbw⟩
end Go.Proofs.YtblhidmkalleoaaGreatDoor
namespace Go.Proofs.YtblhidmkalleoaaGreatDoor
open Go.RowKit
set_option maxHeartbeats 8000000 in
set_option maxRecDepth 10000 in
theorem groupSteps_walk (p:Pl)(v u:Value)(G:List Gm)(l:List Chn)(w:World)(h:p.ok w)(hf:p.fit)(hG:Gms w v G)(hGf: ∀x∈G,x.fit)(hC:Chs w u l)(hCf:FineC l)(hm:Mx w):
 Calls Tryz.prog 4 #[.agg #[.int .i64 p.kind,.int .i64 p.mode,.int .i64 p.low,.int .i64 p.high,.int .i64 p.size,.int .i64 p.limit,p.vl,p.vr,p.vk,p.vq,.bool p.grouped,p.vg,p.va],v,u] w fun e w'=>e= .returned (.bool true)∧Below w.heap.size w w':=by
 have HM:=Lib.hid hm;have HV:=Lib.hid (fun W (hb:Below w.heap.size w W)=>gstep_any p v G u l W (h.below hb) hf (hG.below hb) hGf (hC.below hb) hCf (hm.below hb));have HW:=Lib.hid (fun W (hb:Below w.heap.size w W)=>rstep_any p v G u l W (h.below hb) (hG.below hb) hGf (hC.below hb) hCf);obtain⟨Au,cu,rfl,-⟩:=id hC.sl;obtain⟨Ag,cg,rfl,-⟩:=id hG.sl;obtain⟨A0,c0,h0,-⟩:=h.l;obtain⟨A1,c1,h1,-⟩:=h.r;obtain⟨A2,c2,h2,-⟩:=h.k;obtain⟨A3,c3,h3,-⟩:=h.q;obtain⟨A4,c4,h4,-⟩:=h.g;obtain⟨A5,c5,h5,-⟩:=h.a;rw[h0,h1,h2,h3,h4,h5]at HV HW⊢;clear h hf hG hGf hC hCf hm h0 h1 h2 h3 h4 h5;generalize stepG p (gps G) l=SG at HV HW;obtain⟨G9,L9,Q⟩:=SG;have hqq:(Q==Q)=true:=by simp
 have hB:=below_alloc w (.cells #[.int .i64 p.kind,.int .i64 p.mode,.int .i64 p.low,.int .i64 p.high,.int .i64 p.size,.int .i64 p.limit,.slice A0 p.left.length c0,.slice A1 p.right.length c1,.slice A2 p.lkeys.length c2,.slice A3 p.rkeys.length c3,.bool p.grouped,.slice A4 p.group.length c4,.slice A5 p.aggs.length c5] 25);have K1:=Blk.new w 25 #[.int .i64 p.kind,.int .i64 p.mode,.int .i64 p.low,.int .i64 p.high,.int .i64 p.size,.int .i64 p.limit,.slice A0 p.left.length c0,.slice A1 p.right.length c1,.slice A2 p.lkeys.length c2,.slice A3 p.rkeys.length c3,.bool p.grouped,.slice A4 p.group.length c4,.slice A5 p.aggs.length c5];go_enter Tryz.func4,Tryz.ntmps4
 go_wp2_with fail
 refine Calls.mono (by with_reducible exact HV.out _ hB) ?_;rintro e w1 ⟨v1,u1,G1,l1,rfl,hs1,hc1,hg1,ha1,hb1⟩;have HS1:=Lib.hid hs1;have HC1:=Lib.hid hc1;have HG1:=Lib.hid hg1;have HA1:=Lib.hid ha1;obtain⟨A1,c1,rfl,-⟩:=id hs1.sl;obtain⟨B1,d1,rfl,-⟩:=id hc1.sl;have K2:=K1.below hb1;have hb1:=below_trans hB hb1;obtain⟨y0,y1,y2,y3,y4,y5,y6,y7,y8,y9,y10,y11,y12⟩:=pl_cells K2;clear hs1 hc1 hg1 ha1 HV hB K1
 go_wp2_with fail
 refine Calls.mono (by with_reducible exact HW.out _ hb1) ?_;rintro e w2 ⟨v2,u2,G2,l2,rfl,hs2,hc2,hg2,ha2,hb2⟩;have HS2:=Lib.hid hs2;have HC2:=Lib.hid hc2;have HG2:=Lib.hid hg2;have HA2:=Lib.hid ha2;have HS1:=Lib.hid (HS1.out.below hb2);have HC1:=Lib.hid (HC1.out.below hb2);obtain⟨A2,c2,rfl,-⟩:=id hs2.sl;obtain⟨B2,d2,rfl,-⟩:=id hc2.sl;have B2:=below_trans hb1 hb2;clear hs2 hc2 hg2 ha2 HW hb1 hb2 y0 y1 y2 y3 y4 y5 y6 y7 y8 y9 y10 y11 y12 K2
 go_wp2_with fail
 refine(groupBegun_any _ (HM.out.below B2)).mono ?_;rintro e w3 ⟨rfl,hb3⟩;have B3:=below_trans B2 hb3;have HSG:=Lib.hid (sameGroups_any _ _ G1 G2 w3 (HS1.out.below hb3) (HS2.out.below hb3) (HG1.out.trans HG2.out.symm));have HSC:=Lib.hid (fun W (hb:Below w3.heap.size w3 W)=>sameChanges_any _ _ l1 l2 W ((HC1.out.below hb3).below hb) ((HC2.out.below hb3).below hb) (HA1.out.trans HA2.out.symm));clear hb3 B2
 go_wp2_with fail
 refine Calls.mono (by with_reducible exact HSG.out) ?_;rintro e w4 ⟨rfl,hb4⟩;have B4:=below_trans B3 hb4
 go_wp2_with fail
 refine Calls.mono (by with_reducible exact HSC.out _ hb4) ?_;rintro e w5 ⟨rfl,hb5⟩;have B5:=below_trans B4 hb5;clear hb4 hb5 B3 B4;go_wp2;go_ret;exact⟨rfl,B5⟩
end Go.Proofs.YtblhidmkalleoaaGreatDoor
namespace Go.Proofs.YtblhidmkalleoaaGreatDoor
open Go.RowKit Go.Maps
end Go.Proofs.YtblhidmkalleoaaGreatDoor
namespace Go.Proofs.YtblhidmkalleoaaGreatDoor
open Go.RowKit Go.Maps
end Go.Proofs.YtblhidmkalleoaaGreatDoor
namespace Go.Proofs.YtblhidmkalleoaaGreatDoor
open Go.RowKit Go.Maps
end Go.Proofs.YtblhidmkalleoaaGreatDoor
namespace Go.Proofs.YtblhidmkalleoaaGreatDoor
open Go.ChangeShapes Go.WideShapes Go.RowKit Go.Deep
section
variable {H:Type} {enc:TypeId×Value→H} {P:Program} {w:World} {base:Nat} {spare:Nat→Bool} {held:Bool}
end
section
variable {H:Type} {enc:TypeId×Value→H} {w:World} {base:Nat} {spare:Nat→Bool} {held:Bool}
end
section
variable {H:Type} {enc:TypeId×Value→H} {P:Program} {w:World} {base:Nat} {spare:Nat→Bool} {held:Bool}
theorem flat_ints (l:List Int):l.flatMap (fun n=>[Value.int .i64 n])=intCells l:=by
 induction l with
 |nil=>rfl
 |cons a l ih=>rw[List.flatMap_cons,ih];rfl
end
section
variable {H:Type} {enc:TypeId×Value→H} {w:World} {base:Nat} {spare:Nat→Bool} {held:Bool}
set_option maxRecDepth 100000 in
theorem ints_trod {fuel:Nat}{cs:List Value}{x:DataW H×List MemPlace}(h:DataW.trod enc Tryz.prog w base spare held fuel 22 cs=some x): ∃(v:Value) (l:List Int),cs=[v]∧Sl w v l.length (intCells l)∧I64 l:=by
 obtain⟨v,l,e,hs,hq⟩:=open_flatQ (f:=fun n:Int=>[Value.int .i64 n]) (Q:=fun n=> -9223372036854775808≤n∧n≤9223372036854775807) (size:=1) (fun _=>rfl) (by omega) Tryz.underlying22 (by kernel_rfl)
  (fun fuel cs x h=>by obtain⟨s,e,-,q⟩:=DataW.trod_int Tryz.underlying3 h;exact⟨s,e,wf_i64 q⟩) h
 rw[flat_ints]at hs;exact⟨v,l,e,hs,hq⟩
set_option maxRecDepth 100000 in
theorem agg_trod (fuel:Nat)(cs:List Value)(x:DataW H×List MemPlace)(h:DataW.trod enc Tryz.prog w base spare held fuel 106 cs=some x): ∃a:Int×Int,cs=aggCell a∧(-9223372036854775808≤a.1∧a.1≤9223372036854775807)∧(-9223372036854775808≤a.2∧a.2≤9223372036854775807):=by
 obtain⟨n,hl,hf⟩:=struct_one Tryz.underlying106 (hone_of (by kernel_rfl)) (by kernel_rfl) h;obtain⟨y0,h0⟩:=hf 0 _ rfl;obtain⟨y1,h1⟩:=hf 1 _ rfl;obtain⟨s0,e0,-,q0⟩:=DataW.trod_int Tryz.underlying3 h0;obtain⟨s1,e1,-,q1⟩:=DataW.trod_int Tryz.underlying3 h1
 match cs,hl with
 |[a,b],_=>
  simp at e0 e1;subst e0 e1;exact⟨(s0,s1),rfl,wf_i64 q0,wf_i64 q1⟩
set_option maxRecDepth 100000 in
theorem plan_trod (fuel:Nat)(cs:List Value)(x:DataW H×List MemPlace)(h:DataW.trod enc Tryz.prog w base spare held fuel 25 cs=some x):
 ∃p:Pl,cs=[.int .i64 p.kind,.int .i64 p.mode,.int .i64 p.low,.int .i64 p.high,.int .i64 p.size,.int .i64 p.limit,p.vl,p.vr,p.vk,p.vq,.bool p.grouped,p.vg,p.va]∧p.ok w∧p.fit:=by
 obtain⟨n,hl,hf⟩:=struct_one Tryz.underlying25 (hone_of (by kernel_rfl)) (by kernel_rfl) h;obtain⟨y0,h0⟩:=hf 0 _ rfl;obtain⟨y1,h1⟩:=hf 1 _ rfl;obtain⟨y2,h2⟩:=hf 2 _ rfl;obtain⟨y3,h3⟩:=hf 3 _ rfl;obtain⟨y4,h4⟩:=hf 4 _ rfl;obtain⟨y5,h5⟩:=hf 5 _ rfl;obtain⟨y6,h6⟩:=hf 6 _ rfl;obtain⟨y7,h7⟩:=hf 7 _ rfl;obtain⟨y8,h8⟩:=hf 8 _ rfl;obtain⟨y9,h9⟩:=hf 9 _ rfl;obtain⟨y10,h10⟩:=hf 10 _ rfl;obtain⟨y11,h11⟩:=hf 11 _ rfl;obtain⟨y12,h12⟩:=hf 12 _ rfl;obtain⟨s0,e0,-,q0⟩:=DataW.trod_int Tryz.underlying3 h0;obtain⟨s1,e1,-,q1⟩:=DataW.trod_int Tryz.underlying3 h1;obtain⟨s2,e2,-,q2⟩:=DataW.trod_int Tryz.underlying3 h2;obtain⟨s3,e3,-,q3⟩:=DataW.trod_int Tryz.underlying3 h3;obtain⟨s4,e4,-,q4⟩:=DataW.trod_int Tryz.underlying3 h4;obtain⟨s5,e5,-,q5⟩:=DataW.trod_int Tryz.underlying3 h5;obtain⟨v6,l6,e6,hs6,q6⟩:=ints_trod h6;obtain⟨v7,l7,e7,hs7,q7⟩:=ints_trod h7;obtain⟨v8,l8,e8,hs8,q8⟩:=ints_trod h8;obtain⟨v9,l9,e9,hs9,q9⟩:=ints_trod h9;obtain⟨s10,e10,-⟩:=DataW.trod_bool Tryz.underlying4 h10;obtain⟨v11,l11,e11,hs11,q11⟩:=ints_trod h11;obtain⟨v12,l12,e12,hs12,q12⟩:=open_flatQ (f:=aggCell) (size:=2) aggCell_len (by omega) Tryz.underlying23 (by kernel_rfl) agg_trod h12
 match cs,hl with
 |[a0,a1,a2,a3,a4,a5,a6,a7,a8,a9,a10,a11,a12],_=>
  simp at e0 e1 e2 e3 e4 e5 e6 e7 e8 e9 e10 e11 e12;subst e0 e1 e2 e3 e4 e5 e6 e7 e8 e9 e10 e11 e12;exact⟨⟨s0,s1,s2,s3,s4,s5,a6,a7,a8,a9,s10,a11,a12,l6,l7,l8,l9,l11,l12⟩,rfl,⟨hs6,hs7,hs8,hs9,hs11,hs12⟩,⟨q6,q7,q8,q9,q11,q12⟩⟩
set_option maxRecDepth 100000 in
theorem open_plan {r:Reach}{b0:Nat}{v:Value}{d:DataW H}{p:List MemPlace}(hv:Value.okWide Tryz.prog w r b0 25 v)(h:DataW.Trod enc Tryz.prog w base spare held 25 v d p):
 ∃x:Pl,v= .agg #[.int .i64 x.kind,.int .i64 x.mode,.int .i64 x.low,.int .i64 x.high,.int .i64 x.size,.int .i64 x.limit,x.vl,x.vr,x.vk,x.vq,.bool x.grouped,x.vg,x.va]∧x.ok w∧x.fit:=by
 obtain⟨cs,rfl,-⟩:=okWide_struct Tryz.underlying25 hv;obtain⟨fuel,hf⟩:=h;obtain⟨x,e,hx⟩:=plan_trod _ _ _ hf;refine⟨x,?_,hx⟩;have:cs.toList=[.int .i64 x.kind,.int .i64 x.mode,.int .i64 x.low,.int .i64 x.high,.int .i64 x.size,.int .i64 x.limit,x.vl,x.vr,x.vk,x.vq,.bool x.grouped,x.vg,x.va]:=e;rw[←Array.toArray_toList (xs:=cs),this]
end
end Go.Proofs.YtblhidmkalleoaaGreatDoor
namespace Go.Proofs.YtblhidmkalleoaaGreatDoor
open Go.ChangeShapes Go.WideShapes Go.RowKit Go.Deep
section
variable {H:Type} {enc:TypeId×Value→H} {w:World} {base:Nat} {spare:Nat→Bool} {held:Bool}
set_option maxRecDepth 100000 in
theorem row_trod {fuel:Nat}{cs:List Value}{x:DataW H×List MemPlace}(h:DataW.trod enc Tryz.prog w base spare held fuel 61 cs=some x): ∃(v:Value) (l:List Val),cs=[v]∧Sl w v l.length (rowCells l)∧Fine l:=by
 obtain⟨v,l,e,hs,hq⟩:=open_flatQ (f:=Val.cells) (Q:=Val.ok) (size:=3) Val.cells_len (by omega) Tryz.underlying61 (by kernel_rfl) val_trod h;exact⟨v,l,e,hs,⟨fun x hx=>(hq x hx).2.2.2.2,fun x hx=>⟨(hq x hx).2.2.1,(hq x hx).2.2.2.1⟩⟩⟩
set_option maxRecDepth 100000 in
theorem change_trod (fuel:Nat)(cs:List Value)(x:DataW H×List MemPlace)(h:DataW.trod enc Tryz.prog w base spare held fuel 73 cs=some x): ∃c:Chn,cs=c.cells∧Sl w c.v c.r.length (rowCells c.r)∧Fine c.r∧(-9223372036854775808≤c.k∧c.k≤9223372036854775807):=by
 obtain⟨n,hl,hf⟩:=struct_one Tryz.underlying73 (hone_of (by kernel_rfl)) (by kernel_rfl) h;obtain⟨y0,h0⟩:=hf 0 _ rfl;obtain⟨y1,h1⟩:=hf 1 _ rfl;obtain⟨v,l,e1,hs,hfi⟩:=row_trod h1;obtain⟨s0,e0,-,q0⟩:=DataW.trod_int Tryz.underlying3 h0
 match cs,hl with
 |[a,b],_=>
  simp at e0 e1;subst e0 e1;exact⟨⟨b,l,s0⟩,rfl,hs,hfi,wf_i64 q0⟩
set_option maxRecDepth 100000 in
theorem open_changes {r:Reach}{b0:Nat}{v:Value}{d:DataW H}{p:List MemPlace}(hv:Value.okWide Tryz.prog w r b0 36 v)(h:DataW.Trod enc Tryz.prog w base spare held 36 v d p):
 ∃l:List Chn,Chs w v l∧FineC l:=by
 obtain⟨a,len,cap,rfl⟩:=okWide_slice Tryz.underlying36 hv;obtain⟨fuel,hf⟩:=h;obtain⟨u,l,e,hsl,hq⟩:=open_flatQ (f:=Chn.cells) (Q:=fun c=>Sl w c.v c.r.length (rowCells c.r)∧Fine c.r∧(-9223372036854775808≤c.k∧c.k≤9223372036854775807)) (size:=2) Chn.cells_len (by omega) Tryz.underlying36 (by kernel_rfl) change_trod hf;have:(Value.slice a len cap)=u:=by simpa[Value.cells]using e
 rw[this];exact⟨l,⟨hsl,fun c hc=>(hq c hc).1⟩,⟨fun c hc=>(hq c hc).2.1,fun c hc=>(hq c hc).2.2⟩⟩
end
end Go.Proofs.YtblhidmkalleoaaGreatDoor
