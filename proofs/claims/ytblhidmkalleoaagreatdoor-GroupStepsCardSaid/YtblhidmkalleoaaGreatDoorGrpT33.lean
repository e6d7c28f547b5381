/-Groups: the reference's CheckGroups. (Printed by gengrp19.py.) -/
import Derived.Test.YtblhidmkalleoaaGreatDoorGrpT32
import Derived.Test.YtblhidmkalleoaaGreatDoorGrpT17
import Derived.Test.YtblhidmkalleoaaGreatDoorGrpT28
import Derived.Test.YtblhidmkalleoaaGreatDoorGrpT25
set_option linter.unusedSimpArgs false
set_option linter.unusedVariables false
namespace Go.Proofs.YtblhidmkalleoaaGreatDoor
open Go.RowKit
set_option maxHeartbeats 16000000 in
set_option maxRecDepth 100000 in
theorem rgcheck_any (p:Pl)(v:Value)(G:List Gm)(w:World)(h:p.ok w)(hG:Gms w v G)(hGf: ∀x∈G,x.fit):
 Calls Tryz.prog 16 #[.agg #[.int .i64 p.kind,.int .i64 p.mode,.int .i64 p.low,.int .i64 p.high,.int .i64 p.size,.int .i64 p.limit,p.vl,p.vr,p.vk,p.vq,.bool p.grouped,p.vg,p.va],v] w fun e w'=>e= .returned (.int .i64 (checkG p (gps G)))∧Below w.heap.size w w':=by
 have HGS:=Lib.hid hG;have HCK:=Lib.hid (fun W (hb:Below w.heap.size w W)=>checkPlan_any p W (h.below hb));have HTY:Hid (∀W,Below w.heap.size w W→checkP p=0→Calls Tryz.prog 56 #[.agg #[.int .i64 p.kind,.int .i64 p.mode,.int .i64 p.low,.int .i64 p.high,.int .i64 p.size,.int .i64 p.limit,p.vl,p.vr,p.vk,p.vq,.bool p.grouped,p.vg,p.va]] W fun e w'=> ∃v,e= .returned v∧Sl w' v (allT p).length (intCells (allT p))∧(∀k,v.ownBlock=some k→W.heap.size≤k)∧Below W.heap.size W w'):=Lib.hid (fun W hb hz=>types_any p W (h.below hb) (by have c:=(counts_short (check_ok hz).2.2.1).l2;omega) (by have c:=(counts_short (check_ok hz).2.2.1).r2;omega));have HBG:=Lib.hid (fun W (hb:Below w.heap.size w W) (hz:checkP p=0) (a:Int×Int) (ha:a∈p.aggs) (n:Int) (hn:0≤n∧n≤1073741824) (x:Gm) (hx:x∈G) (q:Value×List Tl) (hq:q∈x.bags)=>rbag_any p a n q.1 q.2 W (h.below hb) (by have c:=(counts_short (check_ok hz).2.2.1).l2;omega) (by have c:=(counts_short (check_ok hz).2.2.1).r2;omega) (((hG.each x hx).bags q hq).below hb) ((hGf x hx).fine.bags q.2 (List.mem_map.2 ⟨q,hq,rfl⟩)) (form_aggs (check_ok hz).2.2.2.2 a ha) hn);have HKE:=Lib.hid (fun W (hb:Below w.heap.size w W) (x:Gm) (hx:x∈G)=>keyError_any x.v x.r W ((hG.each x hx).row.below hb) (hGf x hx).fine.row.small);have HFT:=Lib.hid (fun W (hb:Below w.heap.size w W) (x:Gm) (hx:x∈G) vt (ht:Sl W vt (ownT p).length (intCells (ownT p))) (hl:x.r.length=(ownT p).length)=>fitsTypes_any vt x.v (ownT p) x.r W ht ((hG.each x hx).row.below hb) hl);have HRO:=Lib.hid (fun W (hb:Below w.heap.size w W) (x y:Gm) (hx:x∈G) (hy:y∈G)=>rrows_any y.v x.v y.r x.r W ((hG.each y hy).row.below hb) ((hG.each x hx).row.below hb));have HPG:=Lib.hid h.g;have HPA:=Lib.hid h.a;obtain⟨A0,c0,h0,-⟩:=h.l;obtain⟨A1,c1,h1,-⟩:=h.r;obtain⟨A2,c2,h2,-⟩:=h.k;obtain⟨A3,c3,h3,-⟩:=h.q;obtain⟨A4,c4,h4,n4,m4,-⟩:=h.g;obtain⟨A5,c5,h5,n5,m5,-⟩:=h.a;unfold maxLen at m4 m5;obtain⟨R,hR⟩: ∃R:Int,R=checkG p (gps G):=⟨_,rfl⟩;rw[←hR];unfold checkG at hR;rw[okG_all,gps_len]at hR;have HR:=Lib.hid hR;rw[h0,h1,h2,h3,h4,h5]at HCK HTY HBG⊢;rw[h4]at HPG;rw[h5]at HPA;clear hR h hG h0 h1 h2 h3 h4 h5;obtain⟨Av,cv,rfl,nv,mv,-⟩:=id HGS.out.sl;unfold maxLen at mv;have HFIT:=Lib.hid hGf;clear hGf;have hB:=below_alloc w (.cells #[.int .i64 p.kind,.int .i64 p.mode,.int .i64 p.low,.int .i64 p.high,.int .i64 p.size,.int .i64 p.limit,.slice A0 p.left.length c0,.slice A1 p.right.length c1,.slice A2 p.lkeys.length c2,.slice A3 p.rkeys.length c3,.bool p.grouped,.slice A4 p.group.length c4,.slice A5 p.aggs.length c5] 25);have K0:=Blk.new w 25 #[.int .i64 p.kind,.int .i64 p.mode,.int .i64 p.low,.int .i64 p.high,.int .i64 p.size,.int .i64 p.limit,.slice A0 p.left.length c0,.slice A1 p.right.length c1,.slice A2 p.lkeys.length c2,.slice A3 p.rkeys.length c3,.bool p.grouped,.slice A4 p.group.length c4,.slice A5 p.aggs.length c5];go_enter Tryz.func16,Tryz.ntmps16
 go_wp2_with fail
 refine Calls.mono (by with_reducible exact HCK.out _ hB) ?_;rintro e w1 ⟨rfl,hb1⟩;have hbw1:=below_trans hB hb1;have K1:=K0.below hb1;clear K0 hb1 HCK hB;by_cases hz:checkP p=0
 ·have HZ:=Lib.hid hz
  have q0:=bneF hz;have HR1:=Lib.hid (HR.out.trans (if_neg (fun h=>h hz)));clear hz HR;have y10:=K1.cell 10 _ rfl;cases hgd:p.grouped with
  |false=>
   have EE:Hid (R=1):=Lib.hid (HR1.out.trans (if_pos hgd));rw[hgd]at y10;clear HR1 hgd;go_wp2;go_ret;exact⟨by rw[EE.out];rfl,hbw1⟩
  |true=>
   have HR2:=Lib.hid (HR1.out.trans (if_neg (by rw[hgd];simp)));rw[hgd]at y10 HTY HBG K1;have HGD:=Lib.hid hgd;clear HR1 hgd;by_cases hlen:4096<G.length
   ·have EE:Hid (R=2):=Lib.hid (HR2.out.trans (if_pos hlen))
    have q1:(4096:Int)<(G.length:Int):=by omega
    clear HR2 hlen;go_wp2;go_ret;exact⟨by rw[EE.out];rfl,hbw1⟩
   ·have HR3:=Lib.hid (HR2.out.trans (if_neg hlen))
    have q1: ¬(4096:Int)<(G.length:Int):=by omega
    have hK1:=Lib.hid K1;have HLEN:=Lib.hid hlen;have HTT:=Lib.hid (fun W (hb:Below w.heap.size w W)=>HTY.out W hb HZ.out)
    have HGC:Hid (∀(k:Nat) (x:Int),p.group[k]?=some x→0≤x∧x<((allT p).length:Int)∧(ownT p)[k]?=some ((allT p).getD x.toNat 0)):=Lib.hid (fun k x hk=>by
     have h1:=form_group (check_ok HZ.out).2.2.2.2 x (List.mem_of_getElem? hk);exact⟨h1.1,h1.2,by unfold ownT;rw[List.getElem?_map,hk];rfl⟩)
    have HOL:Hid ((ownT p).length=p.group.length):=Lib.hid (List.length_map ..);have HGL:Hid (p.group.length≤8):=Lib.hid (by have:=(group_few HZ.out HGD.out).1;omega);obtain⟨ta,hta⟩: ∃ta,allT p=ta:=⟨_,rfl⟩;obtain⟨tz,hto⟩: ∃tz,ownT p=tz:=⟨_,rfl⟩;have HTO:=Lib.hid hto;rw[hta]at HTT HGC;rw[hto]at HGC HOL HFT;have hgl:=HGL.out;clear HR2 hlen K1 HTY hta hto HGL
    go_wp2_with fail
    go_loopw[6,7] (fun tv iv wr=> ∃k:Nat,k≤p.group.length∧iv= .int .i64 k∧Hid (wr.ownsRow w1.heap.size 3 1 tv k (intCells (tz.take k)))∧Below w1.heap.size w1 wr) (fun _ iv _=>p.group.length-(intOf iv).toNat)
    case atStart=>exact⟨0,by omega,rfl,Lib.hid (World.ownsRow_nil _ _ _ _),Below.refl _ _⟩
    case round=>
     rename World=>wr1
     obtain⟨k,hk,rfl,HOW,hbr⟩:=hrel;have hBr:=below_trans hbw1 hbr;have HK:=Lib.hid (hK1.out.below hbr);have y11:=HK.out.cell 11 _ rfl;by_cases hlt:k<p.group.length
     ·have hx:=List.getElem?_eq_getElem (l:=p.group) hlt
      generalize p.group[k]=c at hx;obtain⟨bg,og,hA4,-,hcg⟩:=int_at HPG.out rfl hlt;rw[show p.group.getD k 0=c by simp[List.getD,hx]]at hcg;obtain⟨hc0,hc1,hc2⟩:=HGC.out k c hx;obtain⟨m,rfl⟩: ∃m:Nat,c=m:=⟨c.toNat,by omega⟩;rw[show((m:Int)).toNat=m by omega]at hc2;obtain⟨tm,htm⟩: ∃y,ta.getD m 0=y:=⟨_,rfl⟩;rw[htm]at hc2;have HTM:=Lib.hid htm;clear htm;have hm:m<ta.length:=by omega
      subst hA4;have HCG:=Lib.hid hcg;have HC2:=Lib.hid hc2;have HSS:=Lib.hid (fun w' (h:Below wr1.heap.size wr1 w')=>And.intro ((HK.out.below h).cell 0 _ rfl) (And.intro ((HK.out.below h).cell 1 _ rfl) (And.intro ((HK.out.below h).cell 2 _ rfl) (And.intro ((HK.out.below h).cell 3 _ rfl) (And.intro ((HK.out.below h).cell 4 _ rfl) (And.intro ((HK.out.below h).cell 5 _ rfl) (And.intro ((HK.out.below h).cell 6 _ rfl) (And.intro ((HK.out.below h).cell 7 _ rfl) (And.intro ((HK.out.below h).cell 8 _ rfl) (And.intro ((HK.out.below h).cell 9 _ rfl) (And.intro ((HK.out.below h).cell 10 _ rfl) (And.intro ((HK.out.below h).cell 11 _ rfl) (And.intro ((HK.out.below h).cell 12 _ rfl) (HCG.out w' (below_trans hBr h)))))))))))))));have hy0:Below wr1.heap.size wr1 wr1.drew:=(Below.refl _ wr1).drew;have m0':(0:Int)≤(m:Int):=by omega
      have m1':(m:Int)<(ta.length:Int):=by omega
      have i0:(0:Int)≤(k:Int):=by omega
      have i1:(k:Int)<(p.group.length:Int):=by omega
      clear hx hcg hc2 hc0 hc1
      go_upto_region 12 with fail
      refine tr (S:=(fun w'=>w'.cell? ⟨w.heap.size,0,none⟩=some (.int .i64 p.kind)∧w'.cell? ⟨w.heap.size,1,none⟩=some (.int .i64 p.mode)∧w'.cell? ⟨w.heap.size,2,none⟩=some (.int .i64 p.low)∧w'.cell? ⟨w.heap.size,3,none⟩=some (.int .i64 p.high)∧w'.cell? ⟨w.heap.size,4,none⟩=some (.int .i64 p.size)∧w'.cell? ⟨w.heap.size,5,none⟩=some (.int .i64 p.limit)∧w'.cell? ⟨w.heap.size,6,none⟩=some (.slice A0 p.left.length c0)∧w'.cell? ⟨w.heap.size,7,none⟩=some (.slice A1 p.right.length c1)∧w'.cell? ⟨w.heap.size,8,none⟩=some (.slice A2 p.lkeys.length c2)∧w'.cell? ⟨w.heap.size,9,none⟩=some (.slice A3 p.rkeys.length c3)∧w'.cell? ⟨w.heap.size,10,none⟩=some (.bool true)∧w'.cell? ⟨w.heap.size,11,none⟩=some (.slice (some ⟨bg,og,none⟩) p.group.length c4)∧w'.cell? ⟨w.heap.size,12,none⟩=some (.slice A5 p.aggs.length c5)∧w'.cell? ⟨bg,og+k,none⟩=some (.int .i64 (m:Int)))) (HSS.out _ hy0) (fun hHeld=> ?_);refine tk 0 ?_;refine tk 1 ?_;refine tk 3 ?_;refine tk 4 ?_;refine tk 5 ?_;refine tk 6 ?_;refine tk 7 ?_;refine tc 2 ?_;intro K hK;go_simp;refine Calls.mono (by with_reducible exact HTT.out _ (below_trans hBr hy0)) ?_;rintro e w4 ⟨vt,rfl,hst,-,hb4⟩;obtain⟨Bt,dt,rfl,-⟩:=id hst;obtain⟨bt,ot,rfl,-,hct⟩:=int_at hst rfl hm;rw[HTM.out]at hct;have d9:=hct _ (Below.refl _ _);have hyw4:=below_trans hy0 hb4;clear hst hct
      go_wp2_with fail
      refine hK.out _ _ (HSS.out _ hyw4) (fun hHeld2=> ?_);clear hK K;refine tk 8 ?_;refine tc 9 ?_;intro K hK;go_simp;clear d9;refine hK.out _ _ (HSS.out _ hyw4) (fun hHeld9=> ?_);clear hK K;refine tc 10 ?_;intro K hK;go_simp;refine hK.out _ _ (HSS.out _ (below_trans hyw4 (below_alloc w4 (.cells #[.int .i64 tm] 3)))) (fun hHeld10=> ?_);clear hK K;refine tc 11 ?_;intro K hK;have hbX:=below_trans hyw4 (below_alloc w4 (.cells #[.int .i64 tm] 3));have hbX1:=below_trans hbr hbX;have HOX:=Lib.hid (own_below HOW.out hbX);refine step_app (by rfl) _ _ 22 (by rfl) w1.heap.size 3 1 8 Tryz.underlying22 intI u6 k _ (by rfl) HOX.out _ 1 [.int .i64 tm] (by rfl) (one_int w4 _) rfl (one_cell _) (by unfold maxLen;omega) (by omega) hbX1.size ?_;intro v5 w5 hown5 hg5 hat5;have hbY:=hbX1.grown hg5 hbX1.size (fun j hj=>own_ge HOX.out j hj)
      have HON:Hid (w5.ownsRow w1.heap.size 3 1 v5 (k+1) (intCells (tz.take (k+1)))):=Lib.hid (by
       have e:tz.take (k+1)=tz.take k++[tm]:=by rw[List.take_add_one,HC2.out];rfl
       rw[e,intCells_app];exact hown5)
      have HKY:=hK1.out.below hbY;have HCY:=HCG.out _ (below_trans hbw1 hbY);refine hK.out _ _ (And.intro (HKY.cell 0 _ rfl) (And.intro (HKY.cell 1 _ rfl) (And.intro (HKY.cell 2 _ rfl) (And.intro (HKY.cell 3 _ rfl) (And.intro (HKY.cell 4 _ rfl) (And.intro (HKY.cell 5 _ rfl) (And.intro (HKY.cell 6 _ rfl) (And.intro (HKY.cell 7 _ rfl) (And.intro (HKY.cell 8 _ rfl) (And.intro (HKY.cell 9 _ rfl) (And.intro (HKY.cell 10 _ rfl) (And.intro (HKY.cell 11 _ rfl) (And.intro (HKY.cell 12 _ rfl) (HCY)))))))))))))) (fun hHeld11=> ?_);clear hK K;refine tk 12 ?_;refine td ?_;go_wp2;go_roundw
      case rel=>exact⟨k+1,by omega,by go_num,HON,hbY⟩
      case measure=>simp[intOf];omega
     ·obtain rfl:k=p.group.length:=by omega
      have hq1: ¬(p.group.length:Int)<(p.group.length:Int):=by omega
      have HT1:Hid (Sl wr1 u6 tz.length (intCells tz)):=Lib.hid (by
       have:=Sl.of_own HOW.out;rw[←HOL.out]at this;rw[List.take_length]at this;exact this)
      obtain⟨At,ct,rfl,-⟩:=id HT1.out;have HKR:=HK;have hbr1:=hBr;clear HOW HGC hK1 HTT
      go_wp2_with fail
      go_loopw[8] (fun iv wr=> ∃(k:Nat) (I:Int),iv= .int .i64 I∧I=(k:Int)∧k≤G.length∧Hid (∀x∈(List.range G.length).take k,okGat p (gps G) x=true)∧Below wr1.heap.size wr1 wr) (fun iv _=>G.length-(intOf iv).toNat)
      case atStart=>exact⟨0,0,rfl,rfl,by omega,by simp[Hid],Below.refl _ _⟩
      case round=>
       rename World=>wr2
       obtain⟨k,I,rfl,hI,hk,H,hb2⟩:=hrel;have HI:=Lib.hid hI;have I0:(0:Int)≤I:=by omega
       by_cases hlt:I<(G.length:Int)
       ·have hlt':k<G.length:=by omega
        have hIN:I.toNat=k:=by omega
        have hx:=List.getElem?_eq_getElem (l:=G) hlt';generalize G[k]=x at hx;obtain⟨bb,ob,hAb,-,hcb⟩:=gm_at HGS.out.sl rfl hx;have hxm:=List.mem_of_getElem? hx;subst hAb;have HXM:=Lib.hid hxm;have HGK:=Lib.hid (gps_at hx);have HST:=Lib.hid (fun(h:okGat p (gps G) k=true)=>all_step (f:=okGat p (gps G)) H.out (range_at (n:=G.length) hlt') h);have HNO:=Lib.hid (fun(h:okGat p (gps G) k=false)=>HR3.out.trans (if_neg (by rw[all_no (f:=okGat p (gps G)) (range_at (n:=G.length) hlt') h];simp)));have HNB:Hid (groupB p x.gp=false→okGat p (gps G) k=false):=Lib.hid (fun h=>by unfold okGat;rw[HGK.out];show(groupB p x.gp&&_)=false;rw[h];rfl);have HOK0:Hid (k=0→okGat p (gps G) k=groupB p x.gp):=Lib.hid (fun h=>by subst h;exact okG_zero HGK.out);have HOKS:Hid (∀q y,k=q+1→G[q]?=some y→okGat p (gps G) k=(groupB p x.gp&&decide (rowsF y.r x.r<0))):=Lib.hid (fun q y h hy=>by subst h;exact okG_succ HGK.out (gps_at hy));have HFX:=Lib.hid (HFIT.out x hxm);obtain⟨Bx,kx,ex,-⟩:=id (HGS.out.each x hxm).row;obtain⟨Dx,jx,fx,-⟩:=id (HGS.out.each x hxm).sl;have HXO:=Lib.hid (HGS.out.each x hxm);have HKX:=Lib.hid (fun W hb=>HKE.out W hb x hxm);have HFTX:=Lib.hid (fun W hb vt ht hl=>HFT.out W hb x hxm vt ht hl);have HBX:=Lib.hid (fun W hb a ha n hn q hq=>HBG.out W hb HZ.out a ha n hn x hxm q hq);have HRX:=Lib.hid (fun W hb y hy=>HRO.out W hb x y hxm hy);have HGB:Hid (groupB p x.gp=((keyErr x.r==0)&&((x.r.length==tz.length)&&((tz.zip x.r).all fitOne&&(btw x.n 1 1073741824&&((x.bags.length==p.aggs.length)&&(p.aggs.zip (x.bags.map (·.2))).all fun q=>bagB p q.1 x.n q.2)))))):=Lib.hid (by unfold groupB Gm.gp;rw[HTO.out];simp only[List.length_map]);obtain⟨xv,xr,xn,xvb,xbags⟩:=x;simp only at ex fx hcb HOKS HKX HFTX HBX HRX HGB HXO;subst ex fx;obtain⟨KE,hKE⟩: ∃y,keyErr xr=y:=⟨_,rfl⟩;rw[hKE]at HKX HGB;obtain⟨BW,hBW⟩: ∃y,btw xn 1 1073741824=y:=⟨_,rfl⟩;have HBW:=Lib.hid hBW;rw[hBW]at HGB;obtain⟨FV,hFV⟩: ∃y:Int,(if allB fitOne (tz.zip xr)=true then 0 else 5)=y:=⟨_,rfl⟩;have HFV:=Lib.hid hFV;rw[hFV]at HFTX;obtain⟨GB,hGB⟩: ∃y,groupB p (Gm.gp ⟨.slice Bx xr.length kx,xr,xn,.slice Dx xbags.length jx,xbags⟩)=y:=⟨_,rfl⟩;rw[hGB]at HNB HOK0 HOKS HGB;have HCB:=Lib.hid (fun W (hb:Below w.heap.size w W)=>hcb W hb);have hB2:=below_trans hbr1 hb2;have HKB:=Lib.hid (HKR.out.below hb2);have HSS:=Lib.hid (fun w' (h:Below wr2.heap.size wr2 w')=>let z:=HCB.out w' (below_trans hB2 h);And.intro z.1 (And.intro z.2.1 (And.intro z.2.2 ((HKB.out.below h).cell 12 _ rfl))));have HTW:=Lib.hid (HT1.out.below hb2)
        have hlx:((xr.length:Int) !=(tz.length:Int))= !(xr.length==tz.length):=by
         cases e:xr.length==tz.length
         ·have:=ne_of_beq_false e;simp;omega
         ·have:=eq_of_beq e;simp[this]
        have hlb:((xbags.length:Int) !=(p.aggs.length:Int))= !(xbags.length==p.aggs.length):=by
         cases e:xbags.length==p.aggs.length
         ·have:=ne_of_beq_false e;simp;omega
         ·have:=eq_of_beq e;simp[this]
        have hIw:IntKind.i64.wrap (I-1)=I-1:=by rw[IntKind.wrap_i64];omega
        have hy0:Below wr2.heap.size wr2 wr2.drew:=(Below.refl _ wr2).drew;clear hx hxm hKE hBW hFV hGB H hcb hI
        go_upto_region 16 with fail
        go_cut[113]from 40 to 141 (fun bv wx=> ∃B:Bool,bv= .bool B∧Hid (B=true→okGat p (gps G) k=false)∧Hid (B=false→KE=0∧xr.length=tz.length∧allB fitOne (tz.zip xr)=true∧BW=true∧xbags.length=p.aggs.length∧(GB=true→okGat p (gps G) k=true))∧Below wr2.heap.size wr2 wx)
        case first=>
         clear HBX HBG HRO HKE HFT HST HNO;cases hL:xr.length==tz.length with
         |false=>
          rw[hL]at hlx;have HL:=Lib.hid hL;clear hL
          as_aux_lemma=>
           refine tr (S:=(fun w'=>w'.cell? ⟨bb,ob+k*3,none⟩=some (.slice Bx xr.length kx)∧w'.cell? ⟨bb,ob+k*3+1,none⟩=some (.int .i64 xn)∧w'.cell? ⟨bb,ob+k*3+2,none⟩=some (.slice Dx xbags.length jx)∧w'.cell? ⟨w.heap.size,12,none⟩=some (.slice A5 p.aggs.length c5))) (HSS.out _ hy0) (fun hHeld=> ?_);refine tk 0 ?_;refine tk 1 ?_;refine tk 2 ?_;refine tk 3 ?_;refine tk 4 ?_;refine tk 5 ?_;refine tk 6 ?_;refine tk 7 ?_;refine tk 8 ?_;refine tk 9 ?_;refine tn 10 ?_;refine tn 11 ?_;refine tn 12 ?_;refine tn 13 ?_;refine tn 14 ?_;refine tn 15 ?_;refine tn 16 ?_;refine tk 17 ?_;refine tk 18 ?_;refine tn 19 ?_;refine tn 20 ?_;refine tn 21 ?_;refine tn 22 ?_;refine tn 23 ?_;refine tn 24 ?_;refine tn 25 ?_;refine tn 26 ?_;refine tk 27 ?_;refine tk 28 ?_;refine tn 29 ?_;refine tn 30 ?_;refine tn 31 ?_;refine tn 32 ?_;refine tn 33 ?_;refine tn 34 ?_;refine tn 35 ?_;refine tk 36 ?_;refine tk 37 ?_;refine tn 38 ?_;refine tn 39 ?_;refine tn 40 ?_;refine tn 41 ?_;refine tn 42 ?_;refine tn 43 ?_;refine tn 44 ?_;refine tn 45 ?_;refine tn 46 ?_;refine tn 47 ?_;refine tk 48 ?_;refine tk 49 ?_;refine tn 50 ?_;refine tn 51 ?_;refine tn 52 ?_;refine tn 53 ?_;refine tn 54 ?_;refine tn 55 ?_;refine tn 56 ?_;refine tn 57 ?_;refine tn 58 ?_;refine tn 59 ?_;refine tn 60 ?_;refine tn 61 ?_;refine tn 62 ?_;refine tn 63 ?_;refine tn 64 ?_;refine tn 65 ?_;refine tn 66 ?_;refine tk 67 ?_;refine td ?_;go_wp2
           go_meet
           exact⟨true,rfl,Lib.hid (fun _=>HNB.out (by rw[HGB.out,HL.out];simp)),Lib.hid (fun h=>by cases h),hy0⟩
         |true=>
          rw[hL]at hlx;have hLL:=Lib.hid (eq_of_beq hL);clear hL;by_cases hke:KE=0
          ·have q2:=bneF hke
           have HKE0:=Lib.hid hke;clear hke;by_cases hfv:FV=0
           ·have q3:=bneF hfv
            have HFA:Hid (allB fitOne (tz.zip xr)=true):=Lib.hid (by
             have h1:=HFV.out;rw[hfv]at h1;by_cases h2:allB fitOne (tz.zip xr)=true
             ·exact h2
             ·rw[if_neg h2]at h1;omega)
            clear hfv;cases BW with
            |false=>
             as_aux_lemma=>
              refine tr (S:=(fun w'=>w'.cell? ⟨bb,ob+k*3,none⟩=some (.slice Bx xr.length kx)∧w'.cell? ⟨bb,ob+k*3+1,none⟩=some (.int .i64 xn)∧w'.cell? ⟨bb,ob+k*3+2,none⟩=some (.slice Dx xbags.length jx)∧w'.cell? ⟨w.heap.size,12,none⟩=some (.slice A5 p.aggs.length c5))) (HSS.out _ hy0) (fun hHeld=> ?_);refine tk 0 ?_;refine tk 1 ?_;refine tk 2 ?_;refine tk 3 ?_;refine tk 4 ?_;refine tk 5 ?_;refine tk 6 ?_;refine tk 7 ?_;refine tk 8 ?_;refine tk 9 ?_;refine tk 10 ?_;refine tk 11 ?_;refine tk 12 ?_;refine tk 13 ?_;refine tk 14 ?_;refine tc 15 ?_;intro K hK;go_simp;refine Calls.mono (by with_reducible exact HKX.out _ (below_trans hB2 hy0)) ?_;rintro e w4 ⟨rfl,hb4⟩;have hyw4:=below_trans hy0 hb4
              go_wp2_with fail
              refine hK.out _ _ (HSS.out _ hyw4) (fun hHeld15=> ?_);clear hK K;refine tk 16 ?_;refine tk 17 ?_;refine tk 18 ?_;refine tk 19 ?_;refine tk 20 ?_;refine tk 21 ?_;refine tk 22 ?_;refine tk 23 ?_;refine tk 24 ?_;refine tc 25 ?_;intro K hK;go_simp;refine Calls.mono (by with_reducible exact HFTX.out _ (below_trans hB2 hyw4) _ (HTW.out.below hyw4) hLL.out) ?_;rintro e w5 ⟨rfl,hb5⟩;have hyw5:=below_trans hyw4 hb5
              go_wp2_with fail
              refine hK.out _ _ (HSS.out _ hyw5) (fun hHeld25=> ?_);clear hK K;refine tk 26 ?_;refine tk 27 ?_;refine tk 28 ?_;refine tk 29 ?_;refine tk 30 ?_;refine tk 31 ?_;refine tk 32 ?_;refine tk 33 ?_;refine tc 34 ?_;intro K hK;go_simp;refine(within_any xn 1 1073741824 w5).mono ?_;rw[HBW.out];rintro e w6 ⟨rfl,rfl⟩
              go_wp2_with fail
              refine hK.out _ _ (HSS.out _ hyw5) (fun hHeld34=> ?_);clear hK K;refine tk 35 ?_;refine tk 36 ?_;refine tk 37 ?_;refine tn 38 ?_;refine tn 39 ?_;refine tn 40 ?_;refine tn 41 ?_;refine tn 42 ?_;refine tn 43 ?_;refine tn 44 ?_;refine tn 45 ?_;refine tn 46 ?_;refine tn 47 ?_;refine tk 48 ?_;refine tk 49 ?_;refine tn 50 ?_;refine tn 51 ?_;refine tn 52 ?_;refine tn 53 ?_;refine tn 54 ?_;refine tn 55 ?_;refine tn 56 ?_;refine tn 57 ?_;refine tn 58 ?_;refine tn 59 ?_;refine tn 60 ?_;refine tn 61 ?_;refine tn 62 ?_;refine tn 63 ?_;refine tn 64 ?_;refine tn 65 ?_;refine tn 66 ?_;refine tk 67 ?_;refine td ?_;go_wp2
              go_meet
              exact⟨true,rfl,Lib.hid (fun _=>HNB.out (by rw[HGB.out];simp)),Lib.hid (fun h=>by cases h),hyw5⟩
            |true=>
             have HBT:Hid (true=true):=Lib.hid rfl;cases hLb:xbags.length==p.aggs.length with
             |false=>
              rw[hLb]at hlb;have HL:=Lib.hid hLb;clear hLb
              as_aux_lemma=>
               refine tr (S:=(fun w'=>w'.cell? ⟨bb,ob+k*3,none⟩=some (.slice Bx xr.length kx)∧w'.cell? ⟨bb,ob+k*3+1,none⟩=some (.int .i64 xn)∧w'.cell? ⟨bb,ob+k*3+2,none⟩=some (.slice Dx xbags.length jx)∧w'.cell? ⟨w.heap.size,12,none⟩=some (.slice A5 p.aggs.length c5))) (HSS.out _ hy0) (fun hHeld=> ?_);refine tk 0 ?_;refine tk 1 ?_;refine tk 2 ?_;refine tk 3 ?_;refine tk 4 ?_;refine tk 5 ?_;refine tk 6 ?_;refine tk 7 ?_;refine tk 8 ?_;refine tk 9 ?_;refine tk 10 ?_;refine tk 11 ?_;refine tk 12 ?_;refine tk 13 ?_;refine tk 14 ?_;refine tc 15 ?_;intro K hK;go_simp;refine Calls.mono (by with_reducible exact HKX.out _ (below_trans hB2 hy0)) ?_;rintro e w4 ⟨rfl,hb4⟩;have hyw4:=below_trans hy0 hb4
               go_wp2_with fail
               refine hK.out _ _ (HSS.out _ hyw4) (fun hHeld15=> ?_);clear hK K;refine tk 16 ?_;refine tk 17 ?_;refine tk 18 ?_;refine tk 19 ?_;refine tk 20 ?_;refine tk 21 ?_;refine tk 22 ?_;refine tk 23 ?_;refine tk 24 ?_;refine tc 25 ?_;intro K hK;go_simp;refine Calls.mono (by with_reducible exact HFTX.out _ (below_trans hB2 hyw4) _ (HTW.out.below hyw4) hLL.out) ?_;rintro e w5 ⟨rfl,hb5⟩;have hyw5:=below_trans hyw4 hb5
               go_wp2_with fail
               refine hK.out _ _ (HSS.out _ hyw5) (fun hHeld25=> ?_);clear hK K;refine tk 26 ?_;refine tk 27 ?_;refine tk 28 ?_;refine tk 29 ?_;refine tk 30 ?_;refine tk 31 ?_;refine tk 32 ?_;refine tk 33 ?_;refine tc 34 ?_;intro K hK;go_simp;refine(within_any xn 1 1073741824 w5).mono ?_;rw[HBW.out];rintro e w6 ⟨rfl,rfl⟩
               go_wp2_with fail
               refine hK.out _ _ (HSS.out _ hyw5) (fun hHeld34=> ?_);clear hK K;refine tk 35 ?_;refine tk 36 ?_;refine tk 37 ?_;refine tk 38 ?_;refine tk 39 ?_;refine tk 40 ?_;refine tk 41 ?_;refine tk 42 ?_;refine tk 43 ?_;refine tk 44 ?_;refine tk 45 ?_;refine tk 46 ?_;refine tk 47 ?_;refine tk 48 ?_;refine tk 49 ?_;refine tn 50 ?_;refine tn 51 ?_;refine tn 52 ?_;refine tn 53 ?_;refine tn 54 ?_;refine tn 55 ?_;refine tn 56 ?_;refine tn 57 ?_;refine tn 58 ?_;refine tn 59 ?_;refine tn 60 ?_;refine tn 61 ?_;refine tn 62 ?_;refine tn 63 ?_;refine tn 64 ?_;refine tn 65 ?_;refine tn 66 ?_;refine tk 67 ?_;refine td ?_;go_wp2
               go_meet
               exact⟨true,rfl,Lib.hid (fun _=>HNB.out (by rw[HGB.out,HL.out];simp)),Lib.hid (fun h=>by cases h),hyw5⟩
             |true=>
              rw[hLb]at hlb;have HLB:=Lib.hid (eq_of_beq hLb);clear hLb;rcases Nat.eq_zero_or_pos k with hk0|hk0
              ·have hI0:decide ((0:Int)<I)=false:=decide_eq_false (by have:=HI.out;omega)
               have HKZ:=Lib.hid hk0;clear hk0
               as_aux_lemma=>
                refine tr (S:=(fun w'=>w'.cell? ⟨bb,ob+k*3,none⟩=some (.slice Bx xr.length kx)∧w'.cell? ⟨bb,ob+k*3+1,none⟩=some (.int .i64 xn)∧w'.cell? ⟨bb,ob+k*3+2,none⟩=some (.slice Dx xbags.length jx)∧w'.cell? ⟨w.heap.size,12,none⟩=some (.slice A5 p.aggs.length c5))) (HSS.out _ hy0) (fun hHeld=> ?_);refine tk 0 ?_;refine tk 1 ?_;refine tk 2 ?_;refine tk 3 ?_;refine tk 4 ?_;refine tk 5 ?_;refine tk 6 ?_;refine tk 7 ?_;refine tk 8 ?_;refine tk 9 ?_;refine tk 10 ?_;refine tk 11 ?_;refine tk 12 ?_;refine tk 13 ?_;refine tk 14 ?_;refine tc 15 ?_;intro K hK;go_simp;refine Calls.mono (by with_reducible exact HKX.out _ (below_trans hB2 hy0)) ?_;rintro e w4 ⟨rfl,hb4⟩;have hyw4:=below_trans hy0 hb4
                go_wp2_with fail
                refine hK.out _ _ (HSS.out _ hyw4) (fun hHeld15=> ?_);clear hK K;refine tk 16 ?_;refine tk 17 ?_;refine tk 18 ?_;refine tk 19 ?_;refine tk 20 ?_;refine tk 21 ?_;refine tk 22 ?_;refine tk 23 ?_;refine tk 24 ?_;refine tc 25 ?_;intro K hK;go_simp;refine Calls.mono (by with_reducible exact HFTX.out _ (below_trans hB2 hyw4) _ (HTW.out.below hyw4) hLL.out) ?_;rintro e w5 ⟨rfl,hb5⟩;have hyw5:=below_trans hyw4 hb5
                go_wp2_with fail
                refine hK.out _ _ (HSS.out _ hyw5) (fun hHeld25=> ?_);clear hK K;refine tk 26 ?_;refine tk 27 ?_;refine tk 28 ?_;refine tk 29 ?_;refine tk 30 ?_;refine tk 31 ?_;refine tk 32 ?_;refine tk 33 ?_;refine tc 34 ?_;intro K hK;go_simp;refine(within_any xn 1 1073741824 w5).mono ?_;rw[HBW.out];rintro e w6 ⟨rfl,rfl⟩
                go_wp2_with fail
                refine hK.out _ _ (HSS.out _ hyw5) (fun hHeld34=> ?_);clear hK K;refine tk 35 ?_;refine tk 36 ?_;refine tk 37 ?_;refine tk 38 ?_;refine tk 39 ?_;refine tk 40 ?_;refine tk 41 ?_;refine tk 42 ?_;refine tk 43 ?_;refine tk 44 ?_;refine tk 45 ?_;refine tk 46 ?_;refine tk 47 ?_;refine tk 48 ?_;refine tk 49 ?_;refine tk 50 ?_;refine tk 51 ?_;refine tk 52 ?_;refine tn 53 ?_;refine tn 54 ?_;refine tn 55 ?_;refine tn 56 ?_;refine tn 57 ?_;refine tn 58 ?_;refine tn 59 ?_;refine tn 60 ?_;refine tn 61 ?_;refine tn 62 ?_;refine tn 63 ?_;refine tn 64 ?_;refine tn 65 ?_;refine tk 66 ?_;refine tk 67 ?_;refine td ?_;go_wp2
                go_meet
                exact⟨false,rfl,Lib.hid (fun h=>by cases h),Lib.hid (fun _=>⟨HKE0.out,hLL.out,HFA.out,HBT.out,HLB.out,fun h=>(HOK0.out HKZ.out).trans h⟩),hyw5⟩
              ·obtain⟨q,rfl⟩: ∃q,k=q+1:=⟨k-1,by omega⟩
               have hI0:decide ((0:Int)<I)=true:=decide_eq_true (by have:=HI.out;omega);have hI1:(0:Int)≤I-1:=by have:=HI.out;omega
               have hI1':(1:Int)≤I:=by have:=HI.out;omega
               have hI2:I-1<(G.length:Int):=by omega
               have hI3:(I-1).toNat=q:=by have:=HI.out;omega
               have hyl:q<G.length:=by omega
               have hy:=List.getElem?_eq_getElem (l:=G) hyl;generalize G[q]=y at hy;obtain⟨b2,o2,hA2,-,hcy⟩:=gm_at HGS.out.sl rfl hy;injection hA2 with hA2;injection hA2 with e1 e2;subst e1 e2;have HRY:=Lib.hid (fun W hb=>HRX.out W hb y (List.mem_of_getElem? hy));have HOY:=Lib.hid (HOKS.out q y rfl hy);obtain⟨By,ky,ey,-⟩:=id (HGS.out.each y (List.mem_of_getElem? hy)).row;obtain⟨yv,yr,yn,yvb,ybags⟩:=y;simp only at hcy HRY HOY ey;subst ey;have HYS:=Lib.hid (fun w' (h:Below wr2.heap.size wr2 w')=>let z:=HSS.out w' h;And.intro z.1 (And.intro z.2.1 (And.intro z.2.2.1 (And.intro z.2.2.2 (hcy w' (below_trans hB2 h)).1))));generalize rowsF yr xr=CP at HRY HOY;clear hk0 hyl hy hcy HSS;by_cases hcp:CP<0
               ·have q6:decide (0≤CP)=false:=decide_eq_false (by omega)
                have HCP:=Lib.hid hcp;clear hcp
                as_aux_lemma=>
                 refine tr (S:=(fun w'=>w'.cell? ⟨bb,ob+(q+1)*3,none⟩=some (.slice Bx xr.length kx)∧w'.cell? ⟨bb,ob+(q+1)*3+1,none⟩=some (.int .i64 xn)∧w'.cell? ⟨bb,ob+(q+1)*3+2,none⟩=some (.slice Dx xbags.length jx)∧w'.cell? ⟨w.heap.size,12,none⟩=some (.slice A5 p.aggs.length c5)∧w'.cell? ⟨bb,ob+q*3,none⟩=some (.slice By yr.length ky))) (HYS.out _ hy0) (fun hHeld=> ?_);refine tk 0 ?_;refine tk 1 ?_;refine tk 2 ?_;refine tk 3 ?_;refine tk 4 ?_;refine tk 5 ?_;refine tk 6 ?_;refine tk 7 ?_;refine tk 8 ?_;refine tk 9 ?_;refine tk 10 ?_;refine tk 11 ?_;refine tk 12 ?_;refine tk 13 ?_;refine tk 14 ?_;refine tc 15 ?_;intro K hK;go_simp;refine Calls.mono (by with_reducible exact HKX.out _ (below_trans hB2 hy0)) ?_;rintro e w4 ⟨rfl,hb4⟩;have hyw4:=below_trans hy0 hb4
                 go_wp2_with fail
                 refine hK.out _ _ (HYS.out _ hyw4) (fun hHeld15=> ?_);clear hK K;refine tk 16 ?_;refine tk 17 ?_;refine tk 18 ?_;refine tk 19 ?_;refine tk 20 ?_;refine tk 21 ?_;refine tk 22 ?_;refine tk 23 ?_;refine tk 24 ?_;refine tc 25 ?_;intro K hK;go_simp;refine Calls.mono (by with_reducible exact HFTX.out _ (below_trans hB2 hyw4) _ (HTW.out.below hyw4) hLL.out) ?_;rintro e w5 ⟨rfl,hb5⟩;have hyw5:=below_trans hyw4 hb5
                 go_wp2_with fail
                 refine hK.out _ _ (HYS.out _ hyw5) (fun hHeld25=> ?_);clear hK K;refine tk 26 ?_;refine tk 27 ?_;refine tk 28 ?_;refine tk 29 ?_;refine tk 30 ?_;refine tk 31 ?_;refine tk 32 ?_;refine tk 33 ?_;refine tc 34 ?_;intro K hK;go_simp;refine(within_any xn 1 1073741824 w5).mono ?_;rw[HBW.out];rintro e w6 ⟨rfl,rfl⟩
                 go_wp2_with fail
                 refine hK.out _ _ (HYS.out _ hyw5) (fun hHeld34=> ?_);clear hK K;refine tk 35 ?_;refine tk 36 ?_;refine tk 37 ?_;refine tk 38 ?_;refine tk 39 ?_;refine tk 40 ?_;refine tk 41 ?_;refine tk 42 ?_;refine tk 43 ?_;refine tk 44 ?_;refine tk 45 ?_;refine tk 46 ?_;refine tk 47 ?_;refine tk 48 ?_;refine tk 49 ?_;refine tk 50 ?_;refine tk 51 ?_;refine tk 52 ?_;refine tk 53 ?_;refine tk 54 ?_;refine tk 55 ?_;refine tk 56 ?_;refine tk 57 ?_;refine tk 58 ?_;refine tk 59 ?_;refine tk 60 ?_;refine tk 61 ?_;refine tk 62 ?_;refine tk 63 ?_;refine tc 64 ?_;intro K hK;go_simp;refine Calls.mono (by with_reducible exact HRY.out _ (below_trans hB2 hyw5)) ?_;rintro e w7 ⟨rfl,hb7⟩;have hyw7:=below_trans hyw5 hb7
                 go_wp2_with fail
                 refine hK.out _ _ (HYS.out _ hyw7) (fun hHeld64=> ?_);clear hK K;refine tk 65 ?_;refine tk 66 ?_;refine tk 67 ?_;refine td ?_;go_wp2
                 go_meet
                 exact⟨false,rfl,Lib.hid (fun h=>by cases h),Lib.hid (fun _=>⟨HKE0.out,hLL.out,HFA.out,HBT.out,HLB.out,fun h=>HOY.out.trans (by rw[h,decide_eq_true HCP.out];rfl)⟩),hyw7⟩
               ·have q6:decide (0≤CP)=true:=decide_eq_true (by omega)
                have HCP:=Lib.hid hcp;clear hcp
                as_aux_lemma=>
                 refine tr (S:=(fun w'=>w'.cell? ⟨bb,ob+(q+1)*3,none⟩=some (.slice Bx xr.length kx)∧w'.cell? ⟨bb,ob+(q+1)*3+1,none⟩=some (.int .i64 xn)∧w'.cell? ⟨bb,ob+(q+1)*3+2,none⟩=some (.slice Dx xbags.length jx)∧w'.cell? ⟨w.heap.size,12,none⟩=some (.slice A5 p.aggs.length c5)∧w'.cell? ⟨bb,ob+q*3,none⟩=some (.slice By yr.length ky))) (HYS.out _ hy0) (fun hHeld=> ?_);refine tk 0 ?_;refine tk 1 ?_;refine tk 2 ?_;refine tk 3 ?_;refine tk 4 ?_;refine tk 5 ?_;refine tk 6 ?_;refine tk 7 ?_;refine tk 8 ?_;refine tk 9 ?_;refine tk 10 ?_;refine tk 11 ?_;refine tk 12 ?_;refine tk 13 ?_;refine tk 14 ?_;refine tc 15 ?_;intro K hK;go_simp;refine Calls.mono (by with_reducible exact HKX.out _ (below_trans hB2 hy0)) ?_;rintro e w4 ⟨rfl,hb4⟩;have hyw4:=below_trans hy0 hb4
                 go_wp2_with fail
                 refine hK.out _ _ (HYS.out _ hyw4) (fun hHeld15=> ?_);clear hK K;refine tk 16 ?_;refine tk 17 ?_;refine tk 18 ?_;refine tk 19 ?_;refine tk 20 ?_;refine tk 21 ?_;refine tk 22 ?_;refine tk 23 ?_;refine tk 24 ?_;refine tc 25 ?_;intro K hK;go_simp;refine Calls.mono (by with_reducible exact HFTX.out _ (below_trans hB2 hyw4) _ (HTW.out.below hyw4) hLL.out) ?_;rintro e w5 ⟨rfl,hb5⟩;have hyw5:=below_trans hyw4 hb5
                 go_wp2_with fail
                 refine hK.out _ _ (HYS.out _ hyw5) (fun hHeld25=> ?_);clear hK K;refine tk 26 ?_;refine tk 27 ?_;refine tk 28 ?_;refine tk 29 ?_;refine tk 30 ?_;refine tk 31 ?_;refine tk 32 ?_;refine tk 33 ?_;refine tc 34 ?_;intro K hK;go_simp;refine(within_any xn 1 1073741824 w5).mono ?_;rw[HBW.out];rintro e w6 ⟨rfl,rfl⟩
                 go_wp2_with fail
                 refine hK.out _ _ (HYS.out _ hyw5) (fun hHeld34=> ?_);clear hK K;refine tk 35 ?_;refine tk 36 ?_;refine tk 37 ?_;refine tk 38 ?_;refine tk 39 ?_;refine tk 40 ?_;refine tk 41 ?_;refine tk 42 ?_;refine tk 43 ?_;refine tk 44 ?_;refine tk 45 ?_;refine tk 46 ?_;refine tk 47 ?_;refine tk 48 ?_;refine tk 49 ?_;refine tk 50 ?_;refine tk 51 ?_;refine tk 52 ?_;refine tk 53 ?_;refine tk 54 ?_;refine tk 55 ?_;refine tk 56 ?_;refine tk 57 ?_;refine tk 58 ?_;refine tk 59 ?_;refine tk 60 ?_;refine tk 61 ?_;refine tk 62 ?_;refine tk 63 ?_;refine tc 64 ?_;intro K hK;go_simp;refine Calls.mono (by with_reducible exact HRY.out _ (below_trans hB2 hyw5)) ?_;rintro e w7 ⟨rfl,hb7⟩;have hyw7:=below_trans hyw5 hb7
                 go_wp2_with fail
                 refine hK.out _ _ (HYS.out _ hyw7) (fun hHeld64=> ?_);clear hK K;refine tk 65 ?_;refine tk 66 ?_;refine tk 67 ?_;refine td ?_;go_wp2
                 go_meet
                 exact⟨true,rfl,Lib.hid (fun _=>HOY.out.trans (by rw[decide_eq_false (by have:=HCP.out;omega),Bool.and_false])),Lib.hid (fun h=>by cases h),hyw7⟩
           ·have q3:=bneT hfv
            have HFA:Hid ((tz.zip xr).all fitOne=false):=Lib.hid (by
             have h1:=HFV.out;cases h2:(tz.zip xr).all fitOne
             ·rfl
             ·rw[if_pos (show allB fitOne (tz.zip xr)=true from h2)]at h1;omega)
            clear hfv
            as_aux_lemma=>
             refine tr (S:=(fun w'=>w'.cell? ⟨bb,ob+k*3,none⟩=some (.slice Bx xr.length kx)∧w'.cell? ⟨bb,ob+k*3+1,none⟩=some (.int .i64 xn)∧w'.cell? ⟨bb,ob+k*3+2,none⟩=some (.slice Dx xbags.length jx)∧w'.cell? ⟨w.heap.size,12,none⟩=some (.slice A5 p.aggs.length c5))) (HSS.out _ hy0) (fun hHeld=> ?_);refine tk 0 ?_;refine tk 1 ?_;refine tk 2 ?_;refine tk 3 ?_;refine tk 4 ?_;refine tk 5 ?_;refine tk 6 ?_;refine tk 7 ?_;refine tk 8 ?_;refine tk 9 ?_;refine tk 10 ?_;refine tk 11 ?_;refine tk 12 ?_;refine tk 13 ?_;refine tk 14 ?_;refine tc 15 ?_;intro K hK;go_simp;refine Calls.mono (by with_reducible exact HKX.out _ (below_trans hB2 hy0)) ?_;rintro e w4 ⟨rfl,hb4⟩;have hyw4:=below_trans hy0 hb4
             go_wp2_with fail
             refine hK.out _ _ (HSS.out _ hyw4) (fun hHeld15=> ?_);clear hK K;refine tk 16 ?_;refine tk 17 ?_;refine tk 18 ?_;refine tk 19 ?_;refine tk 20 ?_;refine tk 21 ?_;refine tk 22 ?_;refine tk 23 ?_;refine tk 24 ?_;refine tc 25 ?_;intro K hK;go_simp;refine Calls.mono (by with_reducible exact HFTX.out _ (below_trans hB2 hyw4) _ (HTW.out.below hyw4) hLL.out) ?_;rintro e w5 ⟨rfl,hb5⟩;have hyw5:=below_trans hyw4 hb5
             go_wp2_with fail
             refine hK.out _ _ (HSS.out _ hyw5) (fun hHeld25=> ?_);clear hK K;refine tk 26 ?_;refine tk 27 ?_;refine tk 28 ?_;refine tn 29 ?_;refine tn 30 ?_;refine tn 31 ?_;refine tn 32 ?_;refine tn 33 ?_;refine tn 34 ?_;refine tn 35 ?_;refine tk 36 ?_;refine tk 37 ?_;refine tn 38 ?_;refine tn 39 ?_;refine tn 40 ?_;refine tn 41 ?_;refine tn 42 ?_;refine tn 43 ?_;refine tn 44 ?_;refine tn 45 ?_;refine tn 46 ?_;refine tn 47 ?_;refine tk 48 ?_;refine tk 49 ?_;refine tn 50 ?_;refine tn 51 ?_;refine tn 52 ?_;refine tn 53 ?_;refine tn 54 ?_;refine tn 55 ?_;refine tn 56 ?_;refine tn 57 ?_;refine tn 58 ?_;refine tn 59 ?_;refine tn 60 ?_;refine tn 61 ?_;refine tn 62 ?_;refine tn 63 ?_;refine tn 64 ?_;refine tn 65 ?_;refine tn 66 ?_;refine tk 67 ?_;refine td ?_;go_wp2
             go_meet
             exact⟨true,rfl,Lib.hid (fun _=>HNB.out (by rw[HGB.out,HFA.out];simp)),Lib.hid (fun h=>by cases h),hyw5⟩
          ·have q2:=bneT hke
           have HKE0:=Lib.hid (beqF hke);clear hke
           as_aux_lemma=>
            refine tr (S:=(fun w'=>w'.cell? ⟨bb,ob+k*3,none⟩=some (.slice Bx xr.length kx)∧w'.cell? ⟨bb,ob+k*3+1,none⟩=some (.int .i64 xn)∧w'.cell? ⟨bb,ob+k*3+2,none⟩=some (.slice Dx xbags.length jx)∧w'.cell? ⟨w.heap.size,12,none⟩=some (.slice A5 p.aggs.length c5))) (HSS.out _ hy0) (fun hHeld=> ?_);refine tk 0 ?_;refine tk 1 ?_;refine tk 2 ?_;refine tk 3 ?_;refine tk 4 ?_;refine tk 5 ?_;refine tk 6 ?_;refine tk 7 ?_;refine tk 8 ?_;refine tk 9 ?_;refine tk 10 ?_;refine tk 11 ?_;refine tk 12 ?_;refine tk 13 ?_;refine tk 14 ?_;refine tc 15 ?_;intro K hK;go_simp;refine Calls.mono (by with_reducible exact HKX.out _ (below_trans hB2 hy0)) ?_;rintro e w4 ⟨rfl,hb4⟩;have hyw4:=below_trans hy0 hb4
            go_wp2_with fail
            refine hK.out _ _ (HSS.out _ hyw4) (fun hHeld15=> ?_);clear hK K;refine tk 16 ?_;refine tk 17 ?_;refine tk 18 ?_;refine tn 19 ?_;refine tn 20 ?_;refine tn 21 ?_;refine tn 22 ?_;refine tn 23 ?_;refine tn 24 ?_;refine tn 25 ?_;refine tn 26 ?_;refine tk 27 ?_;refine tk 28 ?_;refine tn 29 ?_;refine tn 30 ?_;refine tn 31 ?_;refine tn 32 ?_;refine tn 33 ?_;refine tn 34 ?_;refine tn 35 ?_;refine tk 36 ?_;refine tk 37 ?_;refine tn 38 ?_;refine tn 39 ?_;refine tn 40 ?_;refine tn 41 ?_;refine tn 42 ?_;refine tn 43 ?_;refine tn 44 ?_;refine tn 45 ?_;refine tn 46 ?_;refine tn 47 ?_;refine tk 48 ?_;refine tk 49 ?_;refine tn 50 ?_;refine tn 51 ?_;refine tn 52 ?_;refine tn 53 ?_;refine tn 54 ?_;refine tn 55 ?_;refine tn 56 ?_;refine tn 57 ?_;refine tn 58 ?_;refine tn 59 ?_;refine tn 60 ?_;refine tn 61 ?_;refine tn 62 ?_;refine tn 63 ?_;refine tn 64 ?_;refine tn 65 ?_;refine tn 66 ?_;refine tk 67 ?_;refine td ?_;go_wp2
            go_meet
            exact⟨true,rfl,Lib.hid (fun _=>HNB.out (by rw[HGB.out,HKE0.out];simp)),Lib.hid (fun h=>by cases h),hyw4⟩
        case rest=>
         obtain⟨B,rfl,HB1,HB2,hbc⟩:=hcut;have hBc:=below_trans hB2 hbc;cases B with
         |true=>
          have EE:Hid (R=1):=Lib.hid (HNO.out (HB1.out rfl));clear HB1 HB2;go_wp2;go_ret;exact⟨by rw[EE.out];rfl,hBc⟩
         |false=>
          obtain⟨f1,f2,f3,f4,f5,f6⟩:=HB2.out rfl
          have HGK2:Hid (GB=(p.aggs.zip (xbags.map (·.2))).all fun q=>bagB p q.1 xn q.2):=Lib.hid (by
           rw[HGB.out,f1,f4,f5,f2,show(tz.zip xr).all fitOne=true from f3];simp)
          have HN1:Hid (0≤xn∧xn≤1073741824):=Lib.hid (by
           have h1:=HBW.out.trans f4;unfold btw at h1;simp only[Bool.and_eq_true,decide_eq_true_eq]at h1;omega)
          have HF6:=Lib.hid f6;have HF5:=Lib.hid f5;have HKC:=Lib.hid (HKB.out.below hbc);clear HB1 HB2 f1 f2 f3 f4 f5 f6 HGB HSS hlx hlb
          go_wp2_with fail
          go_loopw[9] (fun iv wr=> ∃j:Nat,j≤p.aggs.length∧iv= .int .i64 j∧Hid (∀q∈(p.aggs.zip (xbags.map (·.2))).take j,bagB p q.1 xn q.2=true)∧Below wc.heap.size wc wr) (fun iv _=>p.aggs.length-(intOf iv).toNat)
          case atStart=>exact⟨0,by omega,rfl,by simp[Hid],Below.refl _ _⟩
          case round=>
           rename World=>wr3
           obtain⟨j,hj,rfl,HJ,hb3⟩:=hrel;have hB3:=below_trans hBc hb3;have HK3:=Lib.hid (HKC.out.below hb3);have y12:=HK3.out.cell 12 _ rfl;by_cases hlj:j<p.aggs.length
           ·have hx:=List.getElem?_eq_getElem (l:=p.aggs) hlj
            generalize p.aggs[j]=a at hx;obtain⟨b5,o5,hA5,-,hc5⟩:=agg_at HPA.out rfl hx;subst hA5;have hlt2:j<xbags.length:=by have:=HF5.out;omega
            have hq:=List.getElem?_eq_getElem (l:=xbags) hlt2;generalize xbags[j]=q at hq;obtain⟨bq,oq,hDx,-,hcq⟩:=cellv_at HXO.out.sl rfl hq;subst hDx;have HZP:=Lib.hid (zip_at (m:=xbags.map (·.2)) hx (by rw[List.getElem?_map,hq];rfl));have HBA:=Lib.hid (fun W h=>HBX.out W h a (List.mem_of_getElem? hx) xn HN1.out q (List.mem_of_getElem? hq));obtain⟨Bq,kq,eq,-⟩:=id (HXO.out.bags q (List.mem_of_getElem? hq));obtain⟨fn,col⟩:=a;obtain⟨qv,ql⟩:=q;simp only at hc5 hcq HZP HBA eq;subst eq;have HJS:=Lib.hid (fun(h:bagB p (fn,col) xn ql=true)=>all_step (f:=fun q:(Int×Int)×List Tl=>bagB p q.1 xn q.2) HJ.out HZP.out h);have HJN:=Lib.hid (fun(h:bagB p (fn,col) xn ql=false)=>all_no (f:=fun q:(Int×Int)×List Tl=>bagB p q.1 xn q.2) HZP.out h);obtain⟨RB,hRB⟩: ∃y,bagB p (fn,col) xn ql=y:=⟨_,rfl⟩;rw[hRB]at HBA HJS HJN;have HSS:=Lib.hid (fun w' (h:Below wr3.heap.size wr3 w')=>And.intro ((HK3.out.below h).cell 0 _ rfl) (And.intro ((HK3.out.below h).cell 1 _ rfl) (And.intro ((HK3.out.below h).cell 2 _ rfl) (And.intro ((HK3.out.below h).cell 3 _ rfl) (And.intro ((HK3.out.below h).cell 4 _ rfl) (And.intro ((HK3.out.below h).cell 5 _ rfl) (And.intro ((HK3.out.below h).cell 6 _ rfl) (And.intro ((HK3.out.below h).cell 7 _ rfl) (And.intro ((HK3.out.below h).cell 8 _ rfl) (And.intro ((HK3.out.below h).cell 9 _ rfl) (And.intro ((HK3.out.below h).cell 10 _ rfl) (And.intro ((HK3.out.below h).cell 11 _ rfl) (And.intro ((HK3.out.below h).cell 12 _ rfl) (And.intro ((hc5 w' (below_trans hB3 h)).1) (And.intro ((hc5 w' (below_trans hB3 h)).2) (And.intro ((HCB.out w' (below_trans hB3 h)).2.1) (And.intro ((HCB.out w' (below_trans hB3 h)).2.2) (hcq w' (below_trans hB3 h)))))))))))))))))));have hy0:Below wr3.heap.size wr3 wr3.drew:=(Below.refl _ wr3).drew;have j0:(0:Int)≤(j:Int):=by omega
            have j1:(j:Int)<(p.aggs.length:Int):=by omega
            have j2:(j:Int)<(xbags.length:Int):=by omega
            clear hx hq hc5 hcq hRB HJ
            go_upto_region 21 with fail
            cases RB with
            |false=>
             have EE:Hid (R=1):=Lib.hid (HNO.out (HNB.out (HGK2.out.trans (HJN.out rfl))));clear HJS HJN;refine tr (S:=(fun w'=>w'.cell? ⟨w.heap.size,0,none⟩=some (.int .i64 p.kind)∧w'.cell? ⟨w.heap.size,1,none⟩=some (.int .i64 p.mode)∧w'.cell? ⟨w.heap.size,2,none⟩=some (.int .i64 p.low)∧w'.cell? ⟨w.heap.size,3,none⟩=some (.int .i64 p.high)∧w'.cell? ⟨w.heap.size,4,none⟩=some (.int .i64 p.size)∧w'.cell? ⟨w.heap.size,5,none⟩=some (.int .i64 p.limit)∧w'.cell? ⟨w.heap.size,6,none⟩=some (.slice A0 p.left.length c0)∧w'.cell? ⟨w.heap.size,7,none⟩=some (.slice A1 p.right.length c1)∧w'.cell? ⟨w.heap.size,8,none⟩=some (.slice A2 p.lkeys.length c2)∧w'.cell? ⟨w.heap.size,9,none⟩=some (.slice A3 p.rkeys.length c3)∧w'.cell? ⟨w.heap.size,10,none⟩=some (.bool true)∧w'.cell? ⟨w.heap.size,11,none⟩=some (.slice A4 p.group.length c4)∧w'.cell? ⟨w.heap.size,12,none⟩=some (.slice (some ⟨b5,o5,none⟩) p.aggs.length c5)∧w'.cell? ⟨b5,o5+j*2,none⟩=some (.int .i64 fn)∧w'.cell? ⟨b5,o5+j*2+1,none⟩=some (.int .i64 col)∧w'.cell? ⟨bb,ob+k*3+1,none⟩=some (.int .i64 xn)∧w'.cell? ⟨bb,ob+k*3+2,none⟩=some (.slice (some ⟨bq,oq,none⟩) xbags.length jx)∧w'.cell? ⟨bq,oq+j,none⟩=some (.slice Bq ql.length kq))) (HSS.out _ hy0) (fun hHeld=> ?_);refine tk 0 ?_;refine tk 1 ?_;refine tk 2 ?_;refine tk 3 ?_;refine tk 4 ?_;refine tk 5 ?_;refine tk 6 ?_;refine tk 7 ?_;refine tk 8 ?_;refine tk 9 ?_;refine tk 10 ?_;refine tk 11 ?_;refine tk 12 ?_;refine tk 13 ?_;refine tk 14 ?_;refine tk 15 ?_;refine tk 16 ?_;refine tk 17 ?_;refine tk 18 ?_;refine tc 19 ?_;intro K hK;go_simp;refine Calls.mono (by with_reducible exact HBA.out _ (below_trans hB3 hy0)) ?_;rintro e w4 ⟨rfl,hb4⟩;have hyw4:=below_trans hy0 hb4
             go_wp2_with fail
             refine hK.out _ _ (HSS.out _ hyw4) (fun hHeld19=> ?_);clear hK K;refine tk 20 ?_;refine td ?_;go_wp2;go_ret;exact⟨by rw[EE.out];rfl,below_trans hB3 hyw4⟩
            |true=>
             have HJ2:=Lib.hid (HJS.out rfl);clear HJS HJN;refine tr (S:=(fun w'=>w'.cell? ⟨w.heap.size,0,none⟩=some (.int .i64 p.kind)∧w'.cell? ⟨w.heap.size,1,none⟩=some (.int .i64 p.mode)∧w'.cell? ⟨w.heap.size,2,none⟩=some (.int .i64 p.low)∧w'.cell? ⟨w.heap.size,3,none⟩=some (.int .i64 p.high)∧w'.cell? ⟨w.heap.size,4,none⟩=some (.int .i64 p.size)∧w'.cell? ⟨w.heap.size,5,none⟩=some (.int .i64 p.limit)∧w'.cell? ⟨w.heap.size,6,none⟩=some (.slice A0 p.left.length c0)∧w'.cell? ⟨w.heap.size,7,none⟩=some (.slice A1 p.right.length c1)∧w'.cell? ⟨w.heap.size,8,none⟩=some (.slice A2 p.lkeys.length c2)∧w'.cell? ⟨w.heap.size,9,none⟩=some (.slice A3 p.rkeys.length c3)∧w'.cell? ⟨w.heap.size,10,none⟩=some (.bool true)∧w'.cell? ⟨w.heap.size,11,none⟩=some (.slice A4 p.group.length c4)∧w'.cell? ⟨w.heap.size,12,none⟩=some (.slice (some ⟨b5,o5,none⟩) p.aggs.length c5)∧w'.cell? ⟨b5,o5+j*2,none⟩=some (.int .i64 fn)∧w'.cell? ⟨b5,o5+j*2+1,none⟩=some (.int .i64 col)∧w'.cell? ⟨bb,ob+k*3+1,none⟩=some (.int .i64 xn)∧w'.cell? ⟨bb,ob+k*3+2,none⟩=some (.slice (some ⟨bq,oq,none⟩) xbags.length jx)∧w'.cell? ⟨bq,oq+j,none⟩=some (.slice Bq ql.length kq))) (HSS.out _ hy0) (fun hHeld=> ?_);refine tk 0 ?_;refine tk 1 ?_;refine tk 2 ?_;refine tk 3 ?_;refine tk 4 ?_;refine tk 5 ?_;refine tk 6 ?_;refine tk 7 ?_;refine tk 8 ?_;refine tk 9 ?_;refine tk 10 ?_;refine tk 11 ?_;refine tk 12 ?_;refine tk 13 ?_;refine tk 14 ?_;refine tk 15 ?_;refine tk 16 ?_;refine tk 17 ?_;refine tk 18 ?_;refine tc 19 ?_;intro K hK;go_simp;refine Calls.mono (by with_reducible exact HBA.out _ (below_trans hB3 hy0)) ?_;rintro e w4 ⟨rfl,hb4⟩;have hyw4:=below_trans hy0 hb4
             go_wp2_with fail
             refine hK.out _ _ (HSS.out _ hyw4) (fun hHeld19=> ?_);clear hK K;refine tk 20 ?_;refine td ?_;go_wp2;go_roundw
             case rel=>exact⟨j+1,by omega,by go_num,HJ2,below_trans hb3 hyw4⟩
             case measure=>simp[intOf];omega
           ·obtain rfl:j=p.aggs.length:=by omega
            have hq1: ¬(p.aggs.length:Int)<(p.aggs.length:Int):=by omega
            have HOKK:=Lib.hid (HST.out (HF6.out (HGK2.out.trans (show allB (fun q:(Int×Int)×List Tl=>bagB p q.1 xn q.2) (p.aggs.zip (xbags.map (·.2)))=true from all_yes (f:=fun q:(Int×Int)×List Tl=>bagB p q.1 xn q.2) (by
             have h1:(p.aggs.zip (xbags.map (·.2))).length=p.aggs.length:=by rw[List.length_zip,List.length_map,HF5.out,Nat.min_self]
             rw[h1];exact HJ.out)))))
            have hbz:=below_trans hb2 (below_trans hbc hb3);clear HJ;go_wp2;go_roundw
            case rel=>exact⟨k+1,I+1,by go_num,by have:=HI.out;omega,by have:=HI.out;omega,HOKK,hbz⟩
            case measure=>have:=HI.out;simp[intOf];omega
       ·obtain rfl:k=G.length:=by omega
        have EE:Hid (R=0):=Lib.hid (HR3.out.trans (if_pos (all_yes (f:=okGat p (gps G)) (by rw[List.length_range];exact H.out))));clear H;go_wp2;go_ret;exact⟨by rw[EE.out];rfl,below_trans hbr1 hb2⟩
 ·have q0:=bneT hz
  have EE:=Lib.hid (HR.out.trans (if_pos hz));clear hz HR;go_wp2;go_ret;exact⟨by rw[EE.out];rfl,hbw1⟩
end Go.Proofs.YtblhidmkalleoaaGreatDoor
