/-Groups: the reference's turn. (Printed by gengrp30.py.) -/
import Derived.Test.YtblhidmkalleoaaGreatDoorGrpT36
import Derived.Test.YtblhidmkalleoaaGreatDoorGrpT19
import Derived.Test.YtblhidmkalleoaaGreatDoorGrpT37
set_option linter.unusedSimpArgs false
set_option linter.unusedVariables false
namespace Go.Proofs.YtblhidmkalleoaaGreatDoor
open Go.RowKit
set_option maxHeartbeats 16000000 in
set_option maxRecDepth 10000 in
theorem rturn_any (p:Pl)(k:Int)(v vr:Value)(r:List Val)(L:List Gm)(w0 w:World)(h:p.ok w0)(hz:checkP p=0)(hg:p.grouped=true)(hb0:Below w0.heap.size w0 w)(hL:OGs w w0.heap.size v L)(hG:GoodGs p (gps L))(hk:1≤k∧k≤4)(hc:TypedG p r)(hr:Sl w0 vr r.length (rowCells r)):
 Calls Tryz.prog 78 #[.agg #[.int .i64 p.kind,.int .i64 p.mode,.int .i64 p.low,.int .i64 p.high,.int .i64 p.size,.int .i64 p.limit,p.vl,p.vr,p.vk,p.vq,.bool p.grouped,p.vg,p.va],v,.agg #[.int .i64 k,vr]] w fun e w'=> ∃v',e= .returned (.tuple #[v',.int .i64 (turnG p (gps L) (k,r)).2])∧Turned (OBk v L) w w'∧((turnG p (gps L) (k,r)).2=0→ ∃L',Tq w w0.heap.size v L w' v' L'∧gps L'=(turnG p (gps L) (k,r)).1):=by
 have HP:=Lib.hid h;have HR:=Lib.hid hr;obtain⟨k1,k2,k3⟩:=cells_good hz hg hc;obtain⟨f1,f2,f3⟩:=group_few hz hg
 have hgr: ∀c∈p.group,0≤c∧c<(r.length:Nat):=fun c hcm=>by
  have h1:=form_group (check_ok hz).2.2.2.2 c hcm;have h2:=hc.len;unfold allT at h2;omega
 have HGO:=Lib.hid (fun W (hb:Below w0.heap.size w0 W)=>rgroupOf_any p vr r W (h.g.below hb) (hr.below hb) hgr (by omega));have HPL:=Lib.hid (fun W v' (hs:OGs W w0.heap.size v L) (hv:Sl W v' (cellsG p r).length (rowCells (cellsG p r)))=>rplaceG_any v v' L (cellsG p r) W hs.gms hv (fun g hg'=>(hG.each g hg').row) k1);have HSG:=Lib.hid (fun W=>csign_any k vr W hk.1 hk.2);obtain⟨s1,s2,s3⟩:=place_split hG.rise (fun g hg'=>(hG.each g hg').row) k1;have hTH: ∀g,hasG (gps L) (cellsG p r)=true→(gps L)[placeG (gps L) (cellsG p r)]?=some g→turnG p (gps L) (k,r)=if 0<stepI k∧g.n=1073741824 then([],2)else turnP p r (stepI k) ((gps L).take (placeG (gps L) (cellsG p r))) g ((gps L).drop (placeG (gps L) (cellsG p r)+1)):=fun g h1 h2=>turn_has h1 h2
 have hTN:hasG (gps L) (cellsG p r)=false→turnG p (gps L) (k,r)=if stepI k<0 then([],9)else if(gps L).length=4096 then([],2)else turnP p r (stepI k) ((gps L).take (placeG (gps L) (cellsG p r))) ⟨cellsG p r,0,p.aggs.map fun _=>[]⟩ ((gps L).drop (placeG (gps L) (cellsG p r))):=fun h1=>turn_new h1
 have hPL:placeG (gps L) (cellsG p r)≤L.length:=by have:=placeG_le (gps L) (cellsG p r);rwa[gps_len]at this
 have hfew:L.length≤4096:=by have:=hG.few;rwa[gps_len]at this
 obtain⟨P,hP⟩: ∃P,placeG (gps L) (cellsG p r)=P:=⟨_,rfl⟩;obtain⟨n,hn⟩: ∃n,stepI k=n:=⟨_,rfl⟩;have hn2:n=1∨n= -1:=by have:=stepI_two k;omega
 obtain⟨TG,hTG⟩: ∃TG,turnG p (gps L) (k,r)=TG:=⟨_,rfl⟩;rw[hP]at HPL s1 s2 s3 hTH hTN hPL;rw[hn]at HSG hTH hTN;rw[hTG]at hTH hTN⊢;obtain⟨HG1,hHG1⟩: ∃y,hasG (gps L) (cellsG p r)=y:=⟨_,rfl⟩;rw[hHG1]at HPL s2 s3 hTH hTN;obtain⟨zs,Q1,Q2,hmk⟩:=bags_make p.aggs.length (by omega);have HZL:=Lib.hid Q1;have HZS:=Lib.hid Q2;obtain⟨A0,c0,h0,n0,m0,-⟩:=id h.l;obtain⟨A1,c1,h1,n1,m1,-⟩:=id h.r;obtain⟨A2,c2,h2,n2,m2,-⟩:=id h.k;obtain⟨A3,c3,h3,n3,m3,-⟩:=id h.q;obtain⟨A4,c4,h4,n4,m4,-⟩:=id h.g;obtain⟨A5,c5,h5,n5,m5,-⟩:=id h.a;obtain⟨Ar,cr,rfl,nr,mr,-⟩:=id hr;obtain⟨Av,cv,rfl,nv,mv,-⟩:=Sl.of_own hL.own;unfold maxLen at m5 mr mv;rw[h0,h1,h2,h3,h4,h5]at HGO⊢;have HVA:Hid (p.va= .slice A5 p.aggs.length c5):=Lib.hid h5;have HW:Hid (Below w.heap.size w ((w.alloc (.cells #[.int .i64 p.kind,.int .i64 p.mode,.int .i64 p.low,.int .i64 p.high,.int .i64 p.size,.int .i64 p.limit,.slice A0 p.left.length c0,.slice A1 p.right.length c1,.slice A2 p.lkeys.length c2,.slice A3 p.rkeys.length c3,.bool p.grouped,.slice A4 p.group.length c4,.slice A5 p.aggs.length c5] 25)).alloc (.cells #[.int .i64 k,.slice Ar r.length cr] 73))):=Lib.hid (below_trans (below_alloc _ _) (below_alloc _ _));have HK0:=Lib.hid ((Blk.new w 25 #[.int .i64 p.kind,.int .i64 p.mode,.int .i64 p.low,.int .i64 p.high,.int .i64 p.size,.int .i64 p.limit,.slice A0 p.left.length c0,.slice A1 p.right.length c1,.slice A2 p.lkeys.length c2,.slice A3 p.rkeys.length c3,.bool p.grouped,.slice A4 p.group.length c4,.slice A5 p.aggs.length c5]).alloc (.cells #[.int .i64 k,.slice Ar r.length cr] 73));have HK1:=Lib.hid (new_second w 73 #[.int .i64 k,.slice Ar r.length cr] (.cells #[.int .i64 p.kind,.int .i64 p.mode,.int .i64 p.low,.int .i64 p.high,.int .i64 p.size,.int .i64 p.limit,.slice A0 p.left.length c0,.slice A1 p.right.length c1,.slice A2 p.lkeys.length c2,.slice A3 p.rkeys.length c3,.bool p.grouped,.slice A4 p.group.length c4,.slice A5 p.aggs.length c5] 25));have HL0:=Lib.hid hL;obtain⟨W2,hW2⟩: ∃V,((w.alloc (.cells #[.int .i64 p.kind,.int .i64 p.mode,.int .i64 p.low,.int .i64 p.high,.int .i64 p.size,.int .i64 p.limit,.slice A0 p.left.length c0,.slice A1 p.right.length c1,.slice A2 p.lkeys.length c2,.slice A3 p.rkeys.length c3,.bool p.grouped,.slice A4 p.group.length c4,.slice A5 p.aggs.length c5] 25)).alloc (.cells #[.int .i64 k,.slice Ar r.length cr] 73))=V:=⟨_,rfl⟩;rw[hW2]at HW HK0 HK1;have hB2:=HW.out;have hbw2:=below_trans hb0 hB2;have HB02:Hid (Below w0.heap.size w0 W2):=Lib.hid hbw2;have HL2:=Lib.hid (hL.below hB2);have HBOX:=Lib.hid (fun W (ht:Turned (OBk (.slice Av L.length cv) L) W2 W)=>And.intro (blk_turned HK0.out ht (fun h=>by have:=(HL0.out.range h).2;omega)) (blk_turned HK1.out ht (fun h=>by have:=(HL0.out.range h).2;omega)));have HBT:=Lib.hid (fun W (ht:Turned (OBk (.slice Av L.length cv) L) W2 W)=>below_turned HB02.out ht (fun k hk=>(HL0.out.range hk).1))
 have HNB:Hid (∀v' L' W,Tq W2 w0.heap.size (.slice Av L.length cv) L W v' L'→ ¬OBk v' L' (w.heap.size+1)∧ ¬OBk v' L' w.heap.size):=Lib.hid (fun v' L' W h=>⟨fun hk=>by
  have h1:=HK1.out.lt;have:=(HL0.out.range (h.old _ h1 hk)).2;omega,fun hk=>by
  have h1:=HK0.out.lt;have:=(HL0.out.range (h.old _ h1 hk)).2;omega⟩)
 have HSS:=Lib.hid (fun W (h:Turned (OBk (.slice Av L.length cv) L) W2 W)=>(let K:=HBOX.out _ h;And.intro (K.1.cell 0 _ rfl) (And.intro (K.1.cell 1 _ rfl) (And.intro (K.1.cell 2 _ rfl) (And.intro (K.1.cell 3 _ rfl) (And.intro (K.1.cell 4 _ rfl) (And.intro (K.1.cell 5 _ rfl) (And.intro (K.1.cell 6 _ rfl) (And.intro (K.1.cell 7 _ rfl) (And.intro (K.1.cell 8 _ rfl) (And.intro (K.1.cell 9 _ rfl) (And.intro (K.1.cell 10 _ rfl) (And.intro (K.1.cell 11 _ rfl) (And.intro (K.1.cell 12 _ rfl) (K.2.cell 1 _ rfl)))))))))))))));have y0:=HK1.out.cell 0 _ rfl;have y1:=HK1.out.cell 1 _ rfl;have HAG:=Lib.hid (aggs_at hz hc);have HCG:=Lib.hid hc.good;have HFA:=Lib.hid (form_aggs (check_ok hz).2.2.2.2);have HRL:Hid (r.length=(p.left++p.right).length):=Lib.hid hc.len;have HTN:=Lib.hid hTN;have HTH:=Lib.hid hTH;have HSP:=Lib.hid (And.intro s1 (And.intro s2 s3));have HGG:=Lib.hid hG;have HN2:=Lib.hid hn2;have HSZ2:Hid (W2.heap.size=w.heap.size+2):=Lib.hid (by rw[←hW2,World.size_alloc,World.size_alloc]);clear h h0 h1 h2 h3 h4 h5 n0 n1 n2 n3 n4 m0 m1 m2 m3 m4 s1 s2 s3 k1 k2 k3 hTH hTN hG hc hz hgr hr hk hg hn Q1 Q2 hL hb0 hTG hP hn2 hHG1;go_enter Tryz.func78,Tryz.ntmps78
 go_upto_region 1 with fail
 try rw[hW2]
 clear hW2
 go_wp2_with fail
 refine Calls.mono (by with_reducible exact HSG.out _) ?_;rintro e w3 ⟨rfl,hb3⟩;have hbw3:=below_trans hbw2 hb3;obtain⟨z0,z1,z2,z3,z4,z5,z6,z7,z8,z9,z10,z11,z12,x1⟩:=HSS.out _ (turned_below hb3);clear y0 y1
 go_wp2_with fail
 refine Calls.mono (by with_reducible exact HGO.out _ hbw3) ?_;rintro e w4 ⟨v4,rfl,hown4,hb4⟩;have hB24:=below_trans hb3 hb4;have HL4:=Lib.hid (HL2.out.below hB24);have HS4:=Lib.hid (Sl.of_own hown4);clear hown4 z0 z1 z2 z3 z4 z5 z6 z7 z8 z9 z10 z11 z12 x1
 go_wp2_with fail
 refine Calls.mono (by with_reducible exact HPL.out _ _ HL4.out HS4.out) ?_;rintro e w5 ⟨rfl,hb5⟩;have HB25:=Lib.hid (below_trans hB24 hb5);have HB05:=Lib.hid (below_trans hbw2 HB25.out);have HL5:=Lib.hid (HL4.out.below hb5);have HT5:Hid (Turned (OBk (.slice Av L.length cv) L) W2 w5):=Lib.hid (turned_below HB25.out);clear HL4 HS4 hb3 hb4 hb5 hbw3 hB24 hbw2
 (cases HG1 with
  |true=>
   obtain⟨g0,hgi,hgk,hgh⟩:=HSP.out.2.1 rfl;have hT:=HTH.out g0 rfl hgi;obtain⟨x,hXS,hxg,e1,e2,hl1⟩:=splitL hgi;have hpl:P<L.length:=by have:=(List.getElem?_eq_some_iff.1 hgi).1;rwa[gps_len]at this
   have hxL:L[P]?=some x:=by rw[hXS,List.getElem?_append_right (by omega),hl1,Nat.sub_self];rfl
   rw[←e1,←e2,←hxg]at hT;rw[←hxg]at hgk;obtain⟨bb,ob,hAv,-,hcb⟩:=gm_at (Sl.of_own HL5.out.own) rfl hxL;obtain⟨g',cap',hform,hgb,hgl⟩:=HL5.out.own.form (by omega);injection hform with q1 q2 q3;rw[hAv]at q1;injection q1 with q1;injection q1 with q1 q4;subst q1 q4 hAv q3;simp only[Nat.zero_add]at hcb;obtain⟨xv,xr,xn,xvb,xbags⟩:=x;obtain⟨d0,d1,d2⟩:=hcb _ (Below.refl _ _);have hgood:=HGG.out.each g0 (List.mem_of_getElem? hgi);rw[←hxg]at hgood;have hn0:=hgood.num;have HBL:Hid (xbags.length=p.aggs.length):=Lib.hid (by have:=hgood.bl;unfold Gm.gp at this;rw[List.length_map]at this;exact this);have HBK:=Lib.hid hgood.bags;have HGX:Hid (xr=cellsG p r):=Lib.hid hgk;unfold Gm.gp at HBK hT hn0;simp only at HBK hT hn0;simp only at d0 d1 d2;have i0:(0:Int)≤(P:Int):=by omega
   have i1:(P:Int)<(L.length:Int):=by omega
   have hn1:=HN2.out;clear hgi hgh hcb hgb hgl hgood hxL e1 e2 hgk hxg;have hTI:=ite_or hT;clear hT;rcases hTI with⟨hA,hT⟩|⟨hA,hT⟩
   ·have HE:=Lib.hid hT
    have hp0:0<n:=hA.1;have hov:=beqT hA.2;clear hT hA hXS hl1 hn1;go_wp2
    go_ret2
    exact⟨_,by rw[HE.out];rfl,(turned_below (F:=OBk (.slice (some ⟨bb,0,none⟩) L.length cv) L) HW.out).trans HT5.out,fun h0=>by rw[HE.out]at h0;exact absurd h0 (by decide)⟩
   have HT:Hid (Tq W2 w0.heap.size (.slice (some ⟨bb,0,none⟩) L.length cv) L w5 (.slice (some ⟨bb,0,none⟩) L.length cv) (L.take P++⟨xv,xr,xn,xvb,xbags⟩::L.drop (P+1))):=Lib.hid (by rw[←hXS];exact(Tq.start HL2.out).below HB25.out);have HN:Hid ((L.take P++⟨xv,xr,xn,xvb,xbags⟩::L.drop (P+1)).length=L.length):=Lib.hid (by rw[←hXS]);have HP1:Hid ((L.take P).length=P):=Lib.hid hl1;have HE:=Lib.hid hT;generalize L.take P=L1 at HT HN HP1 HE hXS hl1;generalize L.drop (P+1)=L2 at HT HN HE hXS;by_cases hp0:0<n
   ·have hov:(xn==1073741824)=false:=beqF (fun e=>hA ⟨hp0,e⟩)
    clear hT hA hXS hl1 hn1 hpl d0 d2
    go_upto_region 11 with fail
    clear d1 hov HL5 hp0;generalize w5=w7 at HT⊢
    (try clear HTN
     try clear HTH
     try clear HSP
     try clear HPL
     try clear HGO
     try clear HSG
     try clear HL5
     try clear HT5
     try clear HB05
     try clear HB25
     try clear HS4
     try clear HGG
     try clear HL2
     have hO:=HT.out.gs.each _ (mem_at _ _ _);obtain⟨gb,capb,e1,hgb,hgl⟩:=hO.sl.form (by have:=HBL.out;show 0<xbags.length;omega);simp only at e1;subst e1;have d1:=(HT.out.gs.cells HP1.out).2.1;have hown7:=HT.out.gs.own;rw[HN.out]at hown7;have f1:=hown7.frozenAt (P*3+1);clear hown7;have hw1:IntKind.i64.wrap (xn+n)=xn+n:=by rw[IntKind.wrap_i64];have:=HN2.out;omega
     obtain⟨xm,hxm⟩: ∃y,xn+n=y:=⟨_,rfl⟩;have HXM:=Lib.hid hxm;have hs8:=Tq.setN (g:=bb) (cap:=cv) (L1:=L1) (L2:=L2) (by rw[HN.out];exact HT.out.gs) (xn+n);simp only at hs8;rw[HN.out,HP1.out]at hs8;have hT8:=HT.out.trans hs8;have hn2:=HN2.out;have HT8:Hid (Tq W2 w0.heap.size (.slice (some ⟨bb,0,none⟩) L.length cv) L (w7.setCell ⟨bb,P*3+1,none⟩ (.int .i64 (xn+n))) (.slice (some ⟨bb,0,none⟩) L.length cv) (L1++⟨xv,xr,xm,.slice (some ⟨gb,0,none⟩) xbags.length capb,xbags⟩::L2)):=Lib.hid (by rw[←hxm];exact hT8);have z12:=(HBOX.out _ HT8.out.turned).1.cell 12 _ rfl;have HN9:Hid (∀y:Gm,(L1++y::L2).length=L.length):=Lib.hid (fun y=>by rw[←HN.out];simp);clear hxm hT8 hO hgb hgl hs8
     go_wp2_with fail
     go_loopw[11,12] (fun iv _ wr=> ∃(i:Nat) (xb:List (Value×List Tl)),i≤p.aggs.length∧iv= .int .i64 i∧Hid (Tq W2 w0.heap.size (.slice (some ⟨bb,0,none⟩) L.length cv) L wr (.slice (some ⟨bb,0,none⟩) L.length cv) (L1++⟨xv,xr,xm,.slice (some ⟨gb,0,none⟩) xbags.length capb,xb⟩::L2))∧Hid (BagSt r n p.aggs (xbags.map (·.2)) (xb.map (·.2)) i)) (fun iv _ _=>p.aggs.length-(intOf iv).toNat)
     case atStart=>exact⟨0,xbags,by omega,rfl,HT8,Lib.hid (BagSt.start _ _ _ _)⟩
     case round=>
      rename World=>wr1
      clear z12 f1 d1;obtain⟨i,xb,hi,rfl,HTi,HBi⟩:=hrel;have HWR:=Lib.hid (HBT.out _ HTi.out.turned);have z12:=(HBOX.out _ HTi.out.turned).1.cell 12 _ rfl;have HLB:Hid (xb.length=xbags.length):=Lib.hid (by have:=HBi.out.len;rw[List.length_map,List.length_map]at this;exact this);by_cases hlt:i<p.aggs.length
      ·have ha:=List.getElem?_eq_getElem (l:=p.aggs) hlt
       generalize p.aggs[i]=a at ha;obtain⟨g5,o5,hA5,-,hc5⟩:=agg_at HP.out.a HVA.out ha;subst hA5;obtain⟨e0,e1⟩:=hc5 _ HWR.out;obtain⟨af,ac⟩:=a;simp only at e0 e1;have HHA:=Lib.hid ha;have j0:(0:Int)≤(i:Int):=by omega
       have j1:(i:Int)<(p.aggs.length:Int):=by omega
       by_cases h1:af=1
       ·have hb1:=beqT h1
        have HBj:=Lib.hid (HBi.out.same HHA.out (by rw[List.length_map];have:=HLB.out;have:=HBL.out;omega) h1);clear h1 ha hc5
        go_wp2_with fail
        go_roundw
        case rel=>
         first
          |exact⟨i+1,xb,by omega,by go_num,HTi,HBj⟩
          |((repeat apply Exists.intro);exact⟨⟨i+1,xb,by omega,by go_num,HTi,HBj⟩,rfl⟩)
        case measure=>simp[intOf];omega
       ·have hb1:=beqF h1
        have hfa:=HFA.out (af,ac) (List.mem_of_getElem? HHA.out) h1;obtain⟨z,hz1,-⟩:=HAG.out (af,ac) (List.mem_of_getElem? HHA.out) h1;simp only at hfa hz1;obtain⟨m,rfl⟩: ∃m:Nat,ac=m:=⟨ac.toNat,by omega⟩;rw[Int.toNat_natCast]at hz1;have hml:m<r.length:=(List.getElem?_eq_some_iff.1 hz1).1;have m0:(0:Int)≤(m:Int):=by omega
        have m1:(m:Int)<(r.length:Int):=by omega
        have HZG:Hid (r.getD ((m:Int)).toNat nullG=z):=Lib.hid (by simp[List.getD,hz1]);have hzr:GoodR [z]:=good_at HCG.out (List.mem_of_getElem? hz1);obtain⟨gr,orr,hAr,-,hcr⟩:=val_at HR.out rfl hz1;subst hAr;obtain⟨zk,zn,zt⟩:=z;have hlb:i<xb.length:=by have:=HLB.out;have:=HBL.out;omega
        have hq:=List.getElem?_eq_getElem (l:=xb) hlb;generalize xb[i]=q at hq;obtain⟨qv,ql⟩:=q;have hqm:(xb.map (·.2))[i]?=some ql:=by rw[List.getElem?_map,hq];rfl
        have hq2:(xbags.map (·.2))[i]?=some ql:=by
         have h2:=congrArg (fun l=>l[0]?) HBi.out.rest;simp only[List.getElem?_drop,Nat.add_zero]at h2;rw[←h2];exact hqm
        have hbk:=HBK.out ((af,(m:Int)),ql) (List.mem_iff_getElem?.2 ⟨i,by rw[List.getElem?_zip_eq_some];exact⟨HHA.out,hq2⟩⟩);rcases hbk with⟨e,-⟩|⟨-,hgt,hsum⟩
        ·exact absurd e h1
        have hgt:GoodT ((allT p).getD ((m:Int)).toNat 0) ql:=hgt;have hsum:sumT ql=xn:=hsum;have hlen2:=sumT_len hgt.vals
        have hle2: ∀x∈ql,-1099511627776≤x.n∧x.n≤1099511627776:=fun x hx=>by
         have h2:=sumT_le hgt.vals hx;have h3:=(hgt.vals x hx).2.2;omega
        have hTd:=HTi.out.below (Below.refl _ wr1).drew;have hbd:=HBT.out _ hTd.turned;have hO:=hTd.gs.each _ (mem_at _ _ _);have hqb:(qv,ql)∈xb:=List.mem_of_getElem? hq;have HSL:Hid (wr1.drew.ownsRow w0.heap.size 107 1 (.slice (some ⟨gb,0,none⟩) xbags.length capb) xbags.length (xb.map (·.1))):=Lib.hid (by have h2:=hO.sl;simp only at h2;rw[HLB.out]at h2;exact h2);obtain⟨TY,hTY⟩: ∃y,tallyG ql ⟨zk,zn,zt⟩ n=y:=⟨_,rfl⟩;have HADD:=Lib.hid (rtally_any qv ql ⟨zk,zn,zt⟩ n w0.heap.size _ ⟨hO.bag _ hqb⟩ hbd.size (by omega) hgt.up hzr hle2 HN2.out);rw[hTY]at HADD;have HTY:=Lib.hid hTY;clear hTY;obtain⟨tl,tok⟩:=TY
        have HS6:=Lib.hid (fun V (ht:Turned (XBk (⟨xv,xr,xm,.slice (some ⟨gb,0,none⟩) xbags.length capb,xb⟩:Gm)) wr1.drew V)=>And.intro
         (own_cells (own_turned hTd.gs.own ht (fun k hk hx=>hTd.gs.far _ (mem_at _ _ _) k hx hk)) HP1.out).2.2
         (And.intro ((HBOX.out _ (hTd.turned.transN ht (fun k hk hx=>hTd.old k hk (.inr ⟨_,mem_at _ _ _,hx⟩)))).2.cell 1 _ rfl)
          (And.intro ((HBOX.out _ (hTd.turned.transN ht (fun k hk hx=>hTd.old k hk (.inr ⟨_,mem_at _ _ _,hx⟩)))).1.cell 12 _ rfl)
           (And.intro ((hc5 V (below_turned hbd ht (fun k hk=>(hO.range k hk).1))).2) (hcr V (below_turned hbd ht (fun k hk=>(hO.range k hk).1)))))))
        have HTD:=Lib.hid hTd;have HOO:=Lib.hid hO;have HQB:=Lib.hid hqb;have HQ:=Lib.hid hq;have HQM:=Lib.hid hqm;have HH1:=Lib.hid h1;have j2:(i:Int)<(xbags.length:Int):=by have:=HBL.out;omega
        have HIL:Hid (i<xb.length):=Lib.hid hlb;clear hTd hO hqb hq hqm h1 hbd hq2 hgt hsum hlen2 hle2 hz1 hfa hcr hzr ha hc5
        go_upto_region 17 with fail
        refine tr (S:=(fun w'=>w'.cell? ⟨bb,P*3+2,none⟩=some (.slice (some ⟨gb,0,none⟩) xbags.length capb)∧w'.cell? ⟨w.heap.size+1,1,none⟩=some (.slice (some ⟨gr,orr,none⟩) r.length cr)∧w'.cell? ⟨w.heap.size,12,none⟩=some (.slice (some ⟨g5,o5,none⟩) p.aggs.length c5)∧w'.cell? ⟨g5,o5+i*2+1,none⟩=some (.int .i64 m)∧w'.cell? ⟨gr,orr+m*3,none⟩=some (.int .i64 zk)∧w'.cell? ⟨gr,orr+m*3+1,none⟩=some (.int .i64 zn)∧w'.cell? ⟨gr,orr+m*3+2,none⟩=some (.string zt))) (HS6.out _ (Turned.refl _ _)) (fun hHeld=> ?_);refine tk 0 ?_;refine tk 1 ?_;refine tk 2 ?_;refine tk 3 ?_;refine tk 4 ?_;refine tk 5 ?_;refine tk 6 ?_;refine tk 7 ?_;refine tk 8 ?_;refine tk 9 ?_;refine tk 10 ?_;refine tk 11 ?_;refine tk 12 ?_;refine tk 14 ?_;refine tk 15 ?_;refine tk 16 ?_;refine tk 17 ?_;refine tk 18 ?_;refine tk 19 ?_;refine tk 20 ?_;refine tk 21 ?_;refine tk 22 ?_;refine tk 23 ?_;refine tk 24 ?_;refine tc 13 ?_;intro K hK;have dq:=(HSL.out.cellAt i (by have:=HIL.out;have:=HLB.out;omega)).trans (show(xb.map (·.1))[i]?=some qv by rw[List.getElem?_map,HQ.out];rfl);go_simp;clear dq;refine hK.out _ _ (HS6.out _ (Turned.refl _ _)) (fun hHeld13=> ?_);clear hK K;refine tc 25 ?_;intro K hK;go_simp;refine Calls.mono (by with_reducible exact HADD.out) ?_;rintro e w6 ⟨uq,rfl,⟨l6,ho6,hl6⟩,hg6,hat6⟩;obtain⟨Aq,nq,cq,e6⟩:=own_slice ho6.own;subst e6;have HT6:=Lib.hid ((turned_grown hg6).imp (G:=XBk (⟨xv,xr,xm,.slice (some ⟨gb,0,none⟩) xbags.length capb,xb⟩:Gm)) (fun k _ h=>Or.inr (Or.inr ⟨_,HQB.out,h⟩)))
        go_wp2_with fail
        refine hK.out _ _ (HS6.out _ HT6.out) (fun hHeld25=> ?_);clear hK K;refine tk 26 ?_;refine tk 27 ?_;refine tk 28 ?_;refine tk 29 ?_;refine tc 30 ?_;intro K hK;have hown6:=own_turned HSL.out (turned_grown hg6) (fun k hk e=>HOO.out.vbq k hk _ HQB.out e);have dq:=(hown6.cellAt i (by have:=HIL.out;have:=HLB.out;omega)).trans (show(xb.map (·.1))[i]?=some qv by rw[List.getElem?_map,HQ.out];rfl);have fq:=hown6.frozenAt i;have hset:=HOO.out.setBag (g:=gb) (cap:=capb) (u:= .slice Aq nq cq) (l:=l6) (by show Value.slice _ _ _=Value.slice _ xb.length _;rw[HLB.out]) HQ.out hg6 ho6 hat6;have HSET:=Lib.hid hset;clear hset hown6 hat6 ho6 hg6;go_simp;clear dq fq;refine hK.out _ _ (HS6.out _ HSET.out.2.1) (fun hHeld30=> ?_);clear hK K;refine tk 31 ?_;refine td ?_;have HTf:=Lib.hid (HTD.out.trans (Tq.upd HTD.out.gs HSET.out.2.1 HSET.out.1 rfl HSET.out.2.2));cases tok with
        |false=>
         have HE9:Hid (TG=([],9)):=Lib.hid (by
          have h2:=HBi.out.fail HHA.out HQM.out HH1.out (by simp only;rw[HZG.out,HTY.out]);rw[HE.out];unfold turnP;rw[if_neg (by rw[h2];simp)])
         go_wp2
         go_ret2
         exact⟨_,by rw[HE9.out];rfl,(HTf.out.pre HW.out).turned,fun h0=>by rw[HE9.out]at h0;exact absurd h0 (by decide)⟩
        |true=>
         obtain rfl:l6=tl:=hl6 rfl
         have HBj:Hid (BagSt r n p.aggs (xbags.map (·.2)) ((xb.set i (.slice Aq nq cq,l6)).map (·.2)) (i+1)):=Lib.hid (by
          have h2:=HBi.out.done HHA.out HQM.out HH1.out (by simp only;rw[HZG.out,HTY.out]);simp only at h2;rw[HZG.out,HTY.out]at h2;rw[List.map_set];exact h2)
         go_wp2_with fail
         go_roundw
         case rel=>
          first
           |exact⟨i+1,xb.set i (.slice Aq nq cq,l6),by omega,by go_num,HTf,HBj⟩
           |((repeat apply Exists.intro);exact⟨⟨i+1,xb.set i (.slice Aq nq cq,l6),by omega,by go_num,HTf,HBj⟩,rfl⟩)
         case measure=>simp[intOf];omega
      ·obtain rfl:i=p.aggs.length:=by omega
       have hen:=HBi.out.end_ (by rw[List.length_map];have:=HLB.out;have:=HBL.out;omega)
       have HE2:Hid (TG=(gps L1++((if xm=0 then[]else[⟨xr,xm,xb.map (·.2)⟩])++gps L2),0)):=Lib.hid (by
        rw[HE.out];unfold turnP;rw[if_pos hen.1,hen.2,←HXM.out])
       have d1:=(HTi.out.gs.cells HP1.out).2.1;simp only at d1;clear hen;by_cases hz:xm=0
       ·have hb1:=beqT hz
        have HE3:Hid (TG=(gps L1++gps L2,0)):=Lib.hid (by rw[HE2.out,if_pos hz];rfl);clear hz
        have hcutP:(L1++(⟨xv,xr,xm,.slice (some ⟨gb,0,none⟩) xbags.length capb,xb⟩:Gm)::L2).take P=L1∧(L1++(⟨xv,xr,xm,.slice (some ⟨gb,0,none⟩) xbags.length capb,xb⟩:Gm)::L2).drop (P+1)=L2:=by
         have:=HP1.out;subst this;exact⟨by simp,by simp⟩
        have HSUB:Hid ((L1++L2).Sublist (L1++(⟨xv,xr,xm,.slice (some ⟨gb,0,none⟩) xbags.length capb,xb⟩:Gm)::L2)):=Lib.hid (List.Sublist.append (List.Sublist.refl _) (List.sublist_cons_self _ _));have hown3:=HTi.out.gs.own;rw[HN9.out]at hown3;have HO3:=Lib.hid hown3;have HTT:=HTi;obtain⟨Ac,cc,hvc,hcc1,hcc2,-⟩:=Sl.of_own hown3;injection hvc with u1 u2 u3;subst u3;unfold maxLen at hcc2;have hn9:=HN9.out (⟨xv,xr,xm,.slice (some ⟨gb,0,none⟩) xbags.length capb,xb⟩:Gm);obtain⟨LL,hLL⟩: ∃y,L1++(⟨xv,xr,xm,.slice (some ⟨gb,0,none⟩) xbags.length capb,xb⟩:Gm)::L2=y:=⟨_,rfl⟩;rw[hLL]at hcutP HSUB HO3 HTT hn9;have HTK:=Lib.hid hcutP.1;have HDR:=Lib.hid hcutP.2;have i2:(P:Int)+1≤(L.length:Nat):=by omega
        have i3:(P:Int)≤(cv:Int):=by omega
        have i4:(P:Int)≤(P:Int)+1:=by omega
        have hw:IntKind.i64.wrap ((P:Int)+1)=(P:Int)+1:=by rw[IntKind.wrap_i64];omega
        have hw0:(0:Int)≤(P:Int)+1:=by omega
        have hwn:((P:Int)+1).toNat=P+1:=by omega
        have HP9:=Lib.hid (show wr1.drew.ownsRow w0.heap.size 97 3 (.slice (some ⟨bb,0,none⟩) P cv) P (gmCells L1)from by
         have:=own_prefix HO3.out (k:=P) (by omega);rwa[gm_take,HTK.out]at this)
        have HLT:Hid ((L1++L2).length=P+(L.length-(P+1))):=Lib.hid (by have h1:=HN9.out ⟨.slice none 0 0,[],0,.slice none 0 0,[]⟩;have h2:=HP1.out;rw[List.length_append,List.length_cons]at h1;rw[List.length_append];omega);have HLD:=Lib.hid (show(gmCells L2).length=(L.length-(P+1))*3 from by rw[gmCells_len];have h1:=HLT.out;have h2:=HP1.out;rw[List.length_append]at h1;congr 1;omega);have HM1:Hid (P+(L.length-(P+1))≤maxLen):=Lib.hid (by unfold maxLen;omega);have HM2:Hid ((P+(L.length-(P+1)))*56≤140737488355328):=Lib.hid (by omega);have HBS:Hid (w0.heap.size≤wr1.drew.heap.size):=Lib.hid HWR.out.size;have HONE:Hid (∀u∈gmCells L2,u.oneCell'=true):=Lib.hid (HTT.out.gs.oneL (fun y hy=>HSUB.out.mem (List.mem_append_right _ hy)));have hlenL2:L2.length=L.length-(P+1):=by have h1:=HLT.out;have h2:=HP1.out;rw[List.length_append]at h1;omega
        clear hown3 hcutP u1;by_cases hcap:cv=P+1
        ·subst hcap
         have HDN:Hid (L2=[]):=Lib.hid (List.length_eq_zero_iff.1 (by omega));have hlen0:L.length-(P+1)=0:=by omega
         have HD:=Lib.hid (fun n c (h:n≤c) (hc:c≤maxLen)=>sl_none (w:=wr1.drew) (A:=⟨bb,0,none⟩) h hc)
         go_upto_region 21 with fail
         refine tr (S:=(fun _=>True)) trivial (fun hHeld=> ?_);refine tk 0 ?_;refine tk 1 ?_;refine tk 2 ?_;refine tk 3 ?_;refine tk 4 ?_;refine tk 5 ?_;refine tk 6 ?_;refine tc 7 ?_;intro K hK;refine step_app (by rfl) (.tmp 146) (.tmp 150) 26 (by rfl) w0.heap.size 97 3 56 Tryz.underlying26 grpI _ P (gmCells L1) (by rfl) HP9.out _ 0 [] (by rfl) (HD.out _ _ (by omega) (by unfold maxLen;omega)) (by rfl) (by simp) (by unfold maxLen;omega) (by omega) HBS.out ?_;intro v4 w4 hown4 hg4 hat4;refine hK.out _ _ trivial (fun hHeld7=> ?_);clear hK K;refine tk 8 ?_;refine td ?_;have HN4:Hid (w4.ownsRow w0.heap.size 97 3 v4 (L1++L2).length (gmCells (L1++L2))):=Lib.hid (by rw[HLT.out,gmCells_app,HDN.out];simpa[gmCells,hlen0]using hown4);have HT9:=Lib.hid (HTT.out.trans (Tq.cut HTT.out.gs HN4.out (drew_grown hg4) (hat4.imp id fun e k hk=>by rw[e]at hk;injection hk with hk;exact Nat.le_of_eq hk) HSUB.out));clear hown4 hg4 hat4;go_wp2
         go_ret2
         exact⟨_,by rw[HE3.out];rfl,(HT9.out.pre HW.out).turned,fun _=>⟨_,HT9.out.pre HW.out,by rw[HE3.out,gps_app]⟩⟩
        ·have HD:=Lib.hid (show Sl wr1.drew (.slice (some ⟨bb,(P+1)*3,none⟩) (L.length-(P+1)) (cv-(P+1))) (L.length-(P+1)) (gmCells L2)from by
          have:=(Sl.of_own HO3.out).drop (size:=3) (by rw[gmCells_len,hn9]) (k:=P+1) (by omega);rw[if_neg hcap,gm_drop,HDR.out]at this;have h2:Sl wr1 (.slice (some ⟨bb,(P+1)*3,none⟩) (L.length-(P+1)) (cv-(P+1))) (L.length-(P+1)) (gmCells L2):=by simpa[Addr.add]using this
          exact h2.drew)
         go_upto_region 21 with fail
         refine tr (S:=(fun _=>True)) trivial (fun hHeld=> ?_);refine tk 0 ?_;refine tk 1 ?_;refine tk 2 ?_;refine tk 3 ?_;refine tk 4 ?_;refine tk 5 ?_;refine tk 6 ?_;refine tc 7 ?_;intro K hK;refine step_app (by rfl) (.tmp 146) (.tmp 150) 26 (by rfl) w0.heap.size 97 3 56 Tryz.underlying26 grpI _ P (gmCells L1) (by rfl) HP9.out _ (L.length-(P+1)) (gmCells L2) (by rfl) HD.out HLD.out HONE.out HM1.out HM2.out HBS.out ?_;intro v4 w4 hown4 hg4 hat4;refine hK.out _ _ trivial (fun hHeld7=> ?_);clear hK K;refine tk 8 ?_;refine td ?_;have HN4:Hid (w4.ownsRow w0.heap.size 97 3 v4 (L1++L2).length (gmCells (L1++L2))):=Lib.hid (by rw[HLT.out,gmCells_app];exact hown4);have HT9:=Lib.hid (HTT.out.trans (Tq.cut HTT.out.gs HN4.out (drew_grown hg4) (hat4.imp id fun e k hk=>by rw[e]at hk;injection hk with hk;exact Nat.le_of_eq hk) HSUB.out));clear hown4 hg4 hat4;go_wp2
         go_ret2
         exact⟨_,by rw[HE3.out];rfl,(HT9.out.pre HW.out).turned,fun _=>⟨_,HT9.out.pre HW.out,by rw[HE3.out,gps_app]⟩⟩
       ·have hb1:=beqF hz
        have HE3:Hid (TG=(gps L1++⟨xr,xm,xb.map (·.2)⟩::gps L2,0)):=Lib.hid (by rw[HE2.out,if_neg hz];rfl);clear hz;go_wp2
        go_ret2
        exact⟨_,by rw[HE3.out];rfl,(HTi.out.pre HW.out).turned,fun _=>⟨_,HTi.out.pre HW.out,by rw[HE3.out,gps_mid];rfl⟩⟩)
   ·clear hT hA hXS hl1 hn1 hpl d0 d2
    go_upto_region 11 with fail
    clear d1 HL5 hp0;generalize w5=w7 at HT⊢
    (try clear HTN
     try clear HTH
     try clear HSP
     try clear HPL
     try clear HGO
     try clear HSG
     try clear HL5
     try clear HT5
     try clear HB05
     try clear HB25
     try clear HS4
     try clear HGG
     try clear HL2
     have hO:=HT.out.gs.each _ (mem_at _ _ _);obtain⟨gb,capb,e1,hgb,hgl⟩:=hO.sl.form (by have:=HBL.out;show 0<xbags.length;omega);simp only at e1;subst e1;have d1:=(HT.out.gs.cells HP1.out).2.1;have hown7:=HT.out.gs.own;rw[HN.out]at hown7;have f1:=hown7.frozenAt (P*3+1);clear hown7;have hw1:IntKind.i64.wrap (xn+n)=xn+n:=by rw[IntKind.wrap_i64];have:=HN2.out;omega
     obtain⟨xm,hxm⟩: ∃y,xn+n=y:=⟨_,rfl⟩;have HXM:=Lib.hid hxm;have hs8:=Tq.setN (g:=bb) (cap:=cv) (L1:=L1) (L2:=L2) (by rw[HN.out];exact HT.out.gs) (xn+n);simp only at hs8;rw[HN.out,HP1.out]at hs8;have hT8:=HT.out.trans hs8;have hn2:=HN2.out;have HT8:Hid (Tq W2 w0.heap.size (.slice (some ⟨bb,0,none⟩) L.length cv) L (w7.setCell ⟨bb,P*3+1,none⟩ (.int .i64 (xn+n))) (.slice (some ⟨bb,0,none⟩) L.length cv) (L1++⟨xv,xr,xm,.slice (some ⟨gb,0,none⟩) xbags.length capb,xbags⟩::L2)):=Lib.hid (by rw[←hxm];exact hT8);have z12:=(HBOX.out _ HT8.out.turned).1.cell 12 _ rfl;have HN9:Hid (∀y:Gm,(L1++y::L2).length=L.length):=Lib.hid (fun y=>by rw[←HN.out];simp);clear hxm hT8 hO hgb hgl hs8
     go_wp2_with fail
     go_loopw[11,12] (fun iv _ wr=> ∃(i:Nat) (xb:List (Value×List Tl)),i≤p.aggs.length∧iv= .int .i64 i∧Hid (Tq W2 w0.heap.size (.slice (some ⟨bb,0,none⟩) L.length cv) L wr (.slice (some ⟨bb,0,none⟩) L.length cv) (L1++⟨xv,xr,xm,.slice (some ⟨gb,0,none⟩) xbags.length capb,xb⟩::L2))∧Hid (BagSt r n p.aggs (xbags.map (·.2)) (xb.map (·.2)) i)) (fun iv _ _=>p.aggs.length-(intOf iv).toNat)
     case atStart=>exact⟨0,xbags,by omega,rfl,HT8,Lib.hid (BagSt.start _ _ _ _)⟩
     case round=>
      rename World=>wr1
      clear z12 f1 d1;obtain⟨i,xb,hi,rfl,HTi,HBi⟩:=hrel;have HWR:=Lib.hid (HBT.out _ HTi.out.turned);have z12:=(HBOX.out _ HTi.out.turned).1.cell 12 _ rfl;have HLB:Hid (xb.length=xbags.length):=Lib.hid (by have:=HBi.out.len;rw[List.length_map,List.length_map]at this;exact this);by_cases hlt:i<p.aggs.length
      ·have ha:=List.getElem?_eq_getElem (l:=p.aggs) hlt
       generalize p.aggs[i]=a at ha;obtain⟨g5,o5,hA5,-,hc5⟩:=agg_at HP.out.a HVA.out ha;subst hA5;obtain⟨e0,e1⟩:=hc5 _ HWR.out;obtain⟨af,ac⟩:=a;simp only at e0 e1;have HHA:=Lib.hid ha;have j0:(0:Int)≤(i:Int):=by omega
       have j1:(i:Int)<(p.aggs.length:Int):=by omega
       by_cases h1:af=1
       ·have hb1:=beqT h1
        have HBj:=Lib.hid (HBi.out.same HHA.out (by rw[List.length_map];have:=HLB.out;have:=HBL.out;omega) h1);clear h1 ha hc5
        go_wp2_with fail
        go_roundw
        case rel=>
         first
          |exact⟨i+1,xb,by omega,by go_num,HTi,HBj⟩
          |((repeat apply Exists.intro);exact⟨⟨i+1,xb,by omega,by go_num,HTi,HBj⟩,rfl⟩)
        case measure=>simp[intOf];omega
       ·have hb1:=beqF h1
        have hfa:=HFA.out (af,ac) (List.mem_of_getElem? HHA.out) h1;obtain⟨z,hz1,-⟩:=HAG.out (af,ac) (List.mem_of_getElem? HHA.out) h1;simp only at hfa hz1;obtain⟨m,rfl⟩: ∃m:Nat,ac=m:=⟨ac.toNat,by omega⟩;rw[Int.toNat_natCast]at hz1;have hml:m<r.length:=(List.getElem?_eq_some_iff.1 hz1).1;have m0:(0:Int)≤(m:Int):=by omega
        have m1:(m:Int)<(r.length:Int):=by omega
        have HZG:Hid (r.getD ((m:Int)).toNat nullG=z):=Lib.hid (by simp[List.getD,hz1]);have hzr:GoodR [z]:=good_at HCG.out (List.mem_of_getElem? hz1);obtain⟨gr,orr,hAr,-,hcr⟩:=val_at HR.out rfl hz1;subst hAr;obtain⟨zk,zn,zt⟩:=z;have hlb:i<xb.length:=by have:=HLB.out;have:=HBL.out;omega
        have hq:=List.getElem?_eq_getElem (l:=xb) hlb;generalize xb[i]=q at hq;obtain⟨qv,ql⟩:=q;have hqm:(xb.map (·.2))[i]?=some ql:=by rw[List.getElem?_map,hq];rfl
        have hq2:(xbags.map (·.2))[i]?=some ql:=by
         have h2:=congrArg (fun l=>l[0]?) HBi.out.rest;simp only[List.getElem?_drop,Nat.add_zero]at h2;rw[←h2];exact hqm
        have hbk:=HBK.out ((af,(m:Int)),ql) (List.mem_iff_getElem?.2 ⟨i,by rw[List.getElem?_zip_eq_some];exact⟨HHA.out,hq2⟩⟩);rcases hbk with⟨e,-⟩|⟨-,hgt,hsum⟩
        ·exact absurd e h1
        have hgt:GoodT ((allT p).getD ((m:Int)).toNat 0) ql:=hgt;have hsum:sumT ql=xn:=hsum;have hlen2:=sumT_len hgt.vals
        have hle2: ∀x∈ql,-1099511627776≤x.n∧x.n≤1099511627776:=fun x hx=>by
         have h2:=sumT_le hgt.vals hx;have h3:=(hgt.vals x hx).2.2;omega
        have hTd:=HTi.out.below (Below.refl _ wr1).drew;have hbd:=HBT.out _ hTd.turned;have hO:=hTd.gs.each _ (mem_at _ _ _);have hqb:(qv,ql)∈xb:=List.mem_of_getElem? hq;have HSL:Hid (wr1.drew.ownsRow w0.heap.size 107 1 (.slice (some ⟨gb,0,none⟩) xbags.length capb) xbags.length (xb.map (·.1))):=Lib.hid (by have h2:=hO.sl;simp only at h2;rw[HLB.out]at h2;exact h2);obtain⟨TY,hTY⟩: ∃y,tallyG ql ⟨zk,zn,zt⟩ n=y:=⟨_,rfl⟩;have HADD:=Lib.hid (rtally_any qv ql ⟨zk,zn,zt⟩ n w0.heap.size _ ⟨hO.bag _ hqb⟩ hbd.size (by omega) hgt.up hzr hle2 HN2.out);rw[hTY]at HADD;have HTY:=Lib.hid hTY;clear hTY;obtain⟨tl,tok⟩:=TY
        have HS6:=Lib.hid (fun V (ht:Turned (XBk (⟨xv,xr,xm,.slice (some ⟨gb,0,none⟩) xbags.length capb,xb⟩:Gm)) wr1.drew V)=>And.intro
         (own_cells (own_turned hTd.gs.own ht (fun k hk hx=>hTd.gs.far _ (mem_at _ _ _) k hx hk)) HP1.out).2.2
         (And.intro ((HBOX.out _ (hTd.turned.transN ht (fun k hk hx=>hTd.old k hk (.inr ⟨_,mem_at _ _ _,hx⟩)))).2.cell 1 _ rfl)
          (And.intro ((HBOX.out _ (hTd.turned.transN ht (fun k hk hx=>hTd.old k hk (.inr ⟨_,mem_at _ _ _,hx⟩)))).1.cell 12 _ rfl)
           (And.intro ((hc5 V (below_turned hbd ht (fun k hk=>(hO.range k hk).1))).2) (hcr V (below_turned hbd ht (fun k hk=>(hO.range k hk).1)))))))
        have HTD:=Lib.hid hTd;have HOO:=Lib.hid hO;have HQB:=Lib.hid hqb;have HQ:=Lib.hid hq;have HQM:=Lib.hid hqm;have HH1:=Lib.hid h1;have j2:(i:Int)<(xbags.length:Int):=by have:=HBL.out;omega
        have HIL:Hid (i<xb.length):=Lib.hid hlb;clear hTd hO hqb hq hqm h1 hbd hq2 hgt hsum hlen2 hle2 hz1 hfa hcr hzr ha hc5
        go_upto_region 17 with fail
        refine tr (S:=(fun w'=>w'.cell? ⟨bb,P*3+2,none⟩=some (.slice (some ⟨gb,0,none⟩) xbags.length capb)∧w'.cell? ⟨w.heap.size+1,1,none⟩=some (.slice (some ⟨gr,orr,none⟩) r.length cr)∧w'.cell? ⟨w.heap.size,12,none⟩=some (.slice (some ⟨g5,o5,none⟩) p.aggs.length c5)∧w'.cell? ⟨g5,o5+i*2+1,none⟩=some (.int .i64 m)∧w'.cell? ⟨gr,orr+m*3,none⟩=some (.int .i64 zk)∧w'.cell? ⟨gr,orr+m*3+1,none⟩=some (.int .i64 zn)∧w'.cell? ⟨gr,orr+m*3+2,none⟩=some (.string zt))) (HS6.out _ (Turned.refl _ _)) (fun hHeld=> ?_);refine tk 0 ?_;refine tk 1 ?_;refine tk 2 ?_;refine tk 3 ?_;refine tk 4 ?_;refine tk 5 ?_;refine tk 6 ?_;refine tk 7 ?_;refine tk 8 ?_;refine tk 9 ?_;refine tk 10 ?_;refine tk 11 ?_;refine tk 12 ?_;refine tk 14 ?_;refine tk 15 ?_;refine tk 16 ?_;refine tk 17 ?_;refine tk 18 ?_;refine tk 19 ?_;refine tk 20 ?_;refine tk 21 ?_;refine tk 22 ?_;refine tk 23 ?_;refine tk 24 ?_;refine tc 13 ?_;intro K hK;have dq:=(HSL.out.cellAt i (by have:=HIL.out;have:=HLB.out;omega)).trans (show(xb.map (·.1))[i]?=some qv by rw[List.getElem?_map,HQ.out];rfl);go_simp;clear dq;refine hK.out _ _ (HS6.out _ (Turned.refl _ _)) (fun hHeld13=> ?_);clear hK K;refine tc 25 ?_;intro K hK;go_simp;refine Calls.mono (by with_reducible exact HADD.out) ?_;rintro e w6 ⟨uq,rfl,⟨l6,ho6,hl6⟩,hg6,hat6⟩;obtain⟨Aq,nq,cq,e6⟩:=own_slice ho6.own;subst e6;have HT6:=Lib.hid ((turned_grown hg6).imp (G:=XBk (⟨xv,xr,xm,.slice (some ⟨gb,0,none⟩) xbags.length capb,xb⟩:Gm)) (fun k _ h=>Or.inr (Or.inr ⟨_,HQB.out,h⟩)))
        go_wp2_with fail
        refine hK.out _ _ (HS6.out _ HT6.out) (fun hHeld25=> ?_);clear hK K;refine tk 26 ?_;refine tk 27 ?_;refine tk 28 ?_;refine tk 29 ?_;refine tc 30 ?_;intro K hK;have hown6:=own_turned HSL.out (turned_grown hg6) (fun k hk e=>HOO.out.vbq k hk _ HQB.out e);have dq:=(hown6.cellAt i (by have:=HIL.out;have:=HLB.out;omega)).trans (show(xb.map (·.1))[i]?=some qv by rw[List.getElem?_map,HQ.out];rfl);have fq:=hown6.frozenAt i;have hset:=HOO.out.setBag (g:=gb) (cap:=capb) (u:= .slice Aq nq cq) (l:=l6) (by show Value.slice _ _ _=Value.slice _ xb.length _;rw[HLB.out]) HQ.out hg6 ho6 hat6;have HSET:=Lib.hid hset;clear hset hown6 hat6 ho6 hg6;go_simp;clear dq fq;refine hK.out _ _ (HS6.out _ HSET.out.2.1) (fun hHeld30=> ?_);clear hK K;refine tk 31 ?_;refine td ?_;have HTf:=Lib.hid (HTD.out.trans (Tq.upd HTD.out.gs HSET.out.2.1 HSET.out.1 rfl HSET.out.2.2));cases tok with
        |false=>
         have HE9:Hid (TG=([],9)):=Lib.hid (by
          have h2:=HBi.out.fail HHA.out HQM.out HH1.out (by simp only;rw[HZG.out,HTY.out]);rw[HE.out];unfold turnP;rw[if_neg (by rw[h2];simp)])
         go_wp2
         go_ret2
         exact⟨_,by rw[HE9.out];rfl,(HTf.out.pre HW.out).turned,fun h0=>by rw[HE9.out]at h0;exact absurd h0 (by decide)⟩
        |true=>
         obtain rfl:l6=tl:=hl6 rfl
         have HBj:Hid (BagSt r n p.aggs (xbags.map (·.2)) ((xb.set i (.slice Aq nq cq,l6)).map (·.2)) (i+1)):=Lib.hid (by
          have h2:=HBi.out.done HHA.out HQM.out HH1.out (by simp only;rw[HZG.out,HTY.out]);simp only at h2;rw[HZG.out,HTY.out]at h2;rw[List.map_set];exact h2)
         go_wp2_with fail
         go_roundw
         case rel=>
          first
           |exact⟨i+1,xb.set i (.slice Aq nq cq,l6),by omega,by go_num,HTf,HBj⟩
           |((repeat apply Exists.intro);exact⟨⟨i+1,xb.set i (.slice Aq nq cq,l6),by omega,by go_num,HTf,HBj⟩,rfl⟩)
         case measure=>simp[intOf];omega
      ·obtain rfl:i=p.aggs.length:=by omega
       have hen:=HBi.out.end_ (by rw[List.length_map];have:=HLB.out;have:=HBL.out;omega)
       have HE2:Hid (TG=(gps L1++((if xm=0 then[]else[⟨xr,xm,xb.map (·.2)⟩])++gps L2),0)):=Lib.hid (by
        rw[HE.out];unfold turnP;rw[if_pos hen.1,hen.2,←HXM.out])
       have d1:=(HTi.out.gs.cells HP1.out).2.1;simp only at d1;clear hen;by_cases hz:xm=0
       ·have hb1:=beqT hz
        have HE3:Hid (TG=(gps L1++gps L2,0)):=Lib.hid (by rw[HE2.out,if_pos hz];rfl);clear hz
        have hcutP:(L1++(⟨xv,xr,xm,.slice (some ⟨gb,0,none⟩) xbags.length capb,xb⟩:Gm)::L2).take P=L1∧(L1++(⟨xv,xr,xm,.slice (some ⟨gb,0,none⟩) xbags.length capb,xb⟩:Gm)::L2).drop (P+1)=L2:=by
         have:=HP1.out;subst this;exact⟨by simp,by simp⟩
        have HSUB:Hid ((L1++L2).Sublist (L1++(⟨xv,xr,xm,.slice (some ⟨gb,0,none⟩) xbags.length capb,xb⟩:Gm)::L2)):=Lib.hid (List.Sublist.append (List.Sublist.refl _) (List.sublist_cons_self _ _));have hown3:=HTi.out.gs.own;rw[HN9.out]at hown3;have HO3:=Lib.hid hown3;have HTT:=HTi;obtain⟨Ac,cc,hvc,hcc1,hcc2,-⟩:=Sl.of_own hown3;injection hvc with u1 u2 u3;subst u3;unfold maxLen at hcc2;have hn9:=HN9.out (⟨xv,xr,xm,.slice (some ⟨gb,0,none⟩) xbags.length capb,xb⟩:Gm);obtain⟨LL,hLL⟩: ∃y,L1++(⟨xv,xr,xm,.slice (some ⟨gb,0,none⟩) xbags.length capb,xb⟩:Gm)::L2=y:=⟨_,rfl⟩;rw[hLL]at hcutP HSUB HO3 HTT hn9;have HTK:=Lib.hid hcutP.1;have HDR:=Lib.hid hcutP.2;have i2:(P:Int)+1≤(L.length:Nat):=by omega
        have i3:(P:Int)≤(cv:Int):=by omega
        have i4:(P:Int)≤(P:Int)+1:=by omega
        have hw:IntKind.i64.wrap ((P:Int)+1)=(P:Int)+1:=by rw[IntKind.wrap_i64];omega
        have hw0:(0:Int)≤(P:Int)+1:=by omega
        have hwn:((P:Int)+1).toNat=P+1:=by omega
        have HP9:=Lib.hid (show wr1.drew.ownsRow w0.heap.size 97 3 (.slice (some ⟨bb,0,none⟩) P cv) P (gmCells L1)from by
         have:=own_prefix HO3.out (k:=P) (by omega);rwa[gm_take,HTK.out]at this)
        have HLT:Hid ((L1++L2).length=P+(L.length-(P+1))):=Lib.hid (by have h1:=HN9.out ⟨.slice none 0 0,[],0,.slice none 0 0,[]⟩;have h2:=HP1.out;rw[List.length_append,List.length_cons]at h1;rw[List.length_append];omega);have HLD:=Lib.hid (show(gmCells L2).length=(L.length-(P+1))*3 from by rw[gmCells_len];have h1:=HLT.out;have h2:=HP1.out;rw[List.length_append]at h1;congr 1;omega);have HM1:Hid (P+(L.length-(P+1))≤maxLen):=Lib.hid (by unfold maxLen;omega);have HM2:Hid ((P+(L.length-(P+1)))*56≤140737488355328):=Lib.hid (by omega);have HBS:Hid (w0.heap.size≤wr1.drew.heap.size):=Lib.hid HWR.out.size;have HONE:Hid (∀u∈gmCells L2,u.oneCell'=true):=Lib.hid (HTT.out.gs.oneL (fun y hy=>HSUB.out.mem (List.mem_append_right _ hy)));have hlenL2:L2.length=L.length-(P+1):=by have h1:=HLT.out;have h2:=HP1.out;rw[List.length_append]at h1;omega
        clear hown3 hcutP u1;by_cases hcap:cv=P+1
        ·subst hcap
         have HDN:Hid (L2=[]):=Lib.hid (List.length_eq_zero_iff.1 (by omega));have hlen0:L.length-(P+1)=0:=by omega
         have HD:=Lib.hid (fun n c (h:n≤c) (hc:c≤maxLen)=>sl_none (w:=wr1.drew) (A:=⟨bb,0,none⟩) h hc)
         go_upto_region 21 with fail
         refine tr (S:=(fun _=>True)) trivial (fun hHeld=> ?_);refine tk 0 ?_;refine tk 1 ?_;refine tk 2 ?_;refine tk 3 ?_;refine tk 4 ?_;refine tk 5 ?_;refine tk 6 ?_;refine tc 7 ?_;intro K hK;refine step_app (by rfl) (.tmp 146) (.tmp 150) 26 (by rfl) w0.heap.size 97 3 56 Tryz.underlying26 grpI _ P (gmCells L1) (by rfl) HP9.out _ 0 [] (by rfl) (HD.out _ _ (by omega) (by unfold maxLen;omega)) (by rfl) (by simp) (by unfold maxLen;omega) (by omega) HBS.out ?_;intro v4 w4 hown4 hg4 hat4;refine hK.out _ _ trivial (fun hHeld7=> ?_);clear hK K;refine tk 8 ?_;refine td ?_;have HN4:Hid (w4.ownsRow w0.heap.size 97 3 v4 (L1++L2).length (gmCells (L1++L2))):=Lib.hid (by rw[HLT.out,gmCells_app,HDN.out];simpa[gmCells,hlen0]using hown4);have HT9:=Lib.hid (HTT.out.trans (Tq.cut HTT.out.gs HN4.out (drew_grown hg4) (hat4.imp id fun e k hk=>by rw[e]at hk;injection hk with hk;exact Nat.le_of_eq hk) HSUB.out));clear hown4 hg4 hat4;go_wp2
         go_ret2
         exact⟨_,by rw[HE3.out];rfl,(HT9.out.pre HW.out).turned,fun _=>⟨_,HT9.out.pre HW.out,by rw[HE3.out,gps_app]⟩⟩
        ·have HD:=Lib.hid (show Sl wr1.drew (.slice (some ⟨bb,(P+1)*3,none⟩) (L.length-(P+1)) (cv-(P+1))) (L.length-(P+1)) (gmCells L2)from by
          have:=(Sl.of_own HO3.out).drop (size:=3) (by rw[gmCells_len,hn9]) (k:=P+1) (by omega);rw[if_neg hcap,gm_drop,HDR.out]at this;have h2:Sl wr1 (.slice (some ⟨bb,(P+1)*3,none⟩) (L.length-(P+1)) (cv-(P+1))) (L.length-(P+1)) (gmCells L2):=by simpa[Addr.add]using this
          exact h2.drew)
         go_upto_region 21 with fail
         refine tr (S:=(fun _=>True)) trivial (fun hHeld=> ?_);refine tk 0 ?_;refine tk 1 ?_;refine tk 2 ?_;refine tk 3 ?_;refine tk 4 ?_;refine tk 5 ?_;refine tk 6 ?_;refine tc 7 ?_;intro K hK;refine step_app (by rfl) (.tmp 146) (.tmp 150) 26 (by rfl) w0.heap.size 97 3 56 Tryz.underlying26 grpI _ P (gmCells L1) (by rfl) HP9.out _ (L.length-(P+1)) (gmCells L2) (by rfl) HD.out HLD.out HONE.out HM1.out HM2.out HBS.out ?_;intro v4 w4 hown4 hg4 hat4;refine hK.out _ _ trivial (fun hHeld7=> ?_);clear hK K;refine tk 8 ?_;refine td ?_;have HN4:Hid (w4.ownsRow w0.heap.size 97 3 v4 (L1++L2).length (gmCells (L1++L2))):=Lib.hid (by rw[HLT.out,gmCells_app];exact hown4);have HT9:=Lib.hid (HTT.out.trans (Tq.cut HTT.out.gs HN4.out (drew_grown hg4) (hat4.imp id fun e k hk=>by rw[e]at hk;injection hk with hk;exact Nat.le_of_eq hk) HSUB.out));clear hown4 hg4 hat4;go_wp2
         go_ret2
         exact⟨_,by rw[HE3.out];rfl,(HT9.out.pre HW.out).turned,fun _=>⟨_,HT9.out.pre HW.out,by rw[HE3.out,gps_app]⟩⟩
       ·have hb1:=beqF hz
        have HE3:Hid (TG=(gps L1++⟨xr,xm,xb.map (·.2)⟩::gps L2,0)):=Lib.hid (by rw[HE2.out,if_neg hz];rfl);clear hz;go_wp2
        go_ret2
        exact⟨_,by rw[HE3.out];rfl,(HTi.out.pre HW.out).turned,fun _=>⟨_,HTi.out.pre HW.out,by rw[HE3.out,gps_mid];rfl⟩⟩)
  |false=>
   have hT:=HTN.out rfl;have hn1:=HN2.out;have hl1:=HSP.out.1;have hl2:=HSP.out.2.2 rfl
   (by_cases hp0:n<0
    ·have HE:=Lib.hid (hT.trans (if_pos hp0))
     clear hT hl1 hl2 hn1;go_wp2
     go_ret2
     exact⟨_,by rw[HE.out];rfl,(turned_below (F:=OBk (.slice Av L.length cv) L) HW.out).trans HT5.out,fun h0=>by rw[HE.out]at h0;exact absurd h0 (by decide)⟩
    replace hT:=hT.trans (if_neg hp0);have hgl:(gps L).length=L.length:=gps_len L;rw[hgl]at hT;clear hgl;by_cases hov0:L.length=4096
    ·have hov:((L.length:Int)==4096)=true:=beqT (by omega)
     have HE:=Lib.hid (hT.trans (if_pos hov0));clear hT hl1 hl2 hn1;go_wp2
     go_ret2
     exact⟨_,by rw[HE.out];rfl,(turned_below (F:=OBk (.slice Av L.length cv) L) HW.out).trans HT5.out,fun h0=>by rw[HE.out]at h0;exact absurd h0 (by decide)⟩
    have hov:((L.length:Int)==4096)=false:=beqF (by omega);have HE0:=Lib.hid (hT.trans (if_neg hov0));have HL1:=Lib.hid hl1;have HL2':=Lib.hid hl2;have HA1:=Lib.hid (HL5.out.below (below_alloc w5 (.cells #[.slice none 0 0,.int .i64 0,.slice none 0 0] 97)));have HBX:=Lib.hid (HB05.out.alloc HB05.out.size (.cells #[.slice none 0 0,.int .i64 0,.slice none 0 0] 97));have HZ1:=Lib.hid (show Sl (w5.alloc (.cells #[.slice none 0 0,.int .i64 0,.slice none 0 0] 97)) (.slice (some ⟨w5.heap.size,0,none⟩) 1 1) 1 (Gm.cells ⟨.slice none 0 0,[],0,.slice none 0 0,[]⟩)from Sl.block (Blk.new w5 97 #[.slice none 0 0,.int .i64 0,.slice none 0 0]) 1 1 (Nat.le_refl _) (by decide));clear hT hl1 hl2 hn1
    go_upto_region 9 with(at_builtin;refine wpList_app rfl (.tmp 56) (.tmp 58) 26 rfl w0.heap.size 97 3 56 Tryz.underlying26 grpI (.slice Av L.length cv) L.length _ rfl HA1.out.own _ 1 (Gm.cells ⟨.slice none 0 0,[],0,.slice none 0 0,[]⟩) rfl HZ1.out rfl (by simp[Gm.cells,Value.oneCell']) (by unfold maxLen;omega) (by omega) HBX.out.size ?_)
    intro v6 w6 hown6 hg6 hat6;have HZ6:Hid (w6.ownsRow w0.heap.size 97 3 v6 (L.length+1) (gmCells (L++[⟨.slice none 0 0,[],0,.slice none 0 0,[]⟩]))):=Lib.hid (by rw[gmCells_app];simpa[gmCells]using hown6);have HG6:=Lib.hid (grown_trans (grown_of_below (below_alloc w5 (.cells #[.slice none 0 0,.int .i64 0,.slice none 0 0] 97)) _) hg6);obtain⟨g6,cap6,hform6,hg6b,hg6l⟩:=hown6.form (by omega);subst hform6
    have HROW:Hid (∀j,some g6=some j→(Value.slice Av L.length cv).ownBlock=some j∨w5.heap.size≤j):=Lib.hid (by
     intro j hj;injection hj with hj;subst hj;rcases hat6 with h|h
     ·exact .inl h.symm
     ·injection h with h
      have h':g6=w5.heap.size+1:=h;exact .inr (by omega))
    have HGL6:=Lib.hid hg6l;obtain⟨Ax6,cx6,hvv,hcap6,hcm6,-⟩:=Sl.of_own hown6;injection hvv with p1 p2 p3;subst p3;unfold maxLen at hcm6;clear hown6 hg6 hat6 p1 hg6l;have hw:IntKind.i64.wrap ((P:Int)+1)=(P:Int)+1:=by rw[IntKind.wrap_i64];omega
    have hw1:((P:Int)+1).toNat=P+1:=by omega
    have i0:(0:Int)≤(P:Int):=by omega
    have i2:(0:Int)≤(P:Int)+1:=by omega
    have i5:(P:Int)+1≤(L.length:Int)+1:=by omega
    have i6:(P:Int)≤(L.length:Int)+1:=by omega
    have i7:(P:Int)<(L.length:Int)+1:=by omega
    have hcn: ¬cap6=P:=by omega
    go_upto_region 9 with fail
    go_cut[]from 60 to 67 (fun wx=> ∃X:Gm,Hid (wx.ownsRow w0.heap.size 97 3 (.slice (some ⟨g6,0,none⟩) (L.length+1) cap6) (L.length+1) (gmCells (L.take P++X::L.drop P)))∧Hid (w5.grownBy wx (Value.slice Av L.length cv).ownBlock))
    case' first=>
     by_cases hi:P<L.length
     ·have hc2': ¬cap6=P+1:=by omega
      obtain⟨sA,sB⟩:=gm_split hi (⟨.slice none 0 0,[],0,.slice none 0 0,[]⟩:Gm);obtain⟨w8,hrun,hown8,hg8⟩:=own_shiftG (c1:=cap6-(P+1)) (c2:=cap6-P) (own_drew HZ6.out) hi HL5.out.one;rw[gm_take,gm_drop,gm_take,sA,sB,←gmCells_app,List.append_assoc,List.singleton_append]at hown8;have HRUN:=Lib.hid hrun;have HO8:=Lib.hid hown8;have HG8:=Lib.hid (grown_new HG6.out (drew_grown hg8) HROW.out);clear hrun hown8 hg8 sA sB;refine tr (S:=(fun _=>True)) trivial (fun hHeld=> ?_);refine tk 0 ?_;refine tk 1 ?_;refine tk 2 ?_;refine tk 3 ?_;refine tk 4 ?_;refine tk 5 ?_;refine tk 6 ?_;refine tc 7 ?_;intro K hK;refine step_copy_run (by rfl) (.tmp 63) (.tmp 66) 26 26 (by rfl) _ _ (by rfl) (by rfl) (HRUN.out _) ?_;refine hK.out _ _ trivial (fun hHeld7=> ?_);clear hK K;refine td ?_;go_wp2
      go_meet
      exact⟨_,HO8,HG8⟩
     ·have HIE:Hid (P=L.length):=Lib.hid (by omega)
      clear hi
      have HOE:Hid (w6.drew.ownsRow w0.heap.size 97 3 (.slice (some ⟨g6,0,none⟩) (L.length+1) cap6) (L.length+1) (gmCells (L.take P++⟨.slice none 0 0,[],0,.slice none 0 0,[]⟩::L.drop P))):=Lib.hid (by
       rw[List.take_of_length_le (by have:=HIE.out;omega),List.drop_of_length_le (by have:=HIE.out;omega)];exact own_drew HZ6.out)
      by_cases hcp:cap6=P+1
      all_goals
       try subst hcp
       refine tr (S:=(fun _=>True)) trivial (fun hHeld=> ?_);refine tk 0 ?_;refine tk 1 ?_;refine tk 2 ?_;refine tk 3 ?_;refine tk 4 ?_;refine tk 5 ?_;refine tk 6 ?_;refine tc 7 ?_;intro K hK;refine step_copy_run (by rfl) (.tmp 63) (.tmp 66) 26 26 (by rfl) _ _ (by rfl) (by rfl) (run_copy_zero _ _ _ _ _ _ _ _ _ _ _ Tryz.underlying26 (by rw[grpSize];rfl) (by show min _ _=_;have:=HIE.out;omega)) ?_;refine hK.out _ _ trivial (fun hHeld7=> ?_);clear hK K;refine td ?_;go_wp2
       go_meet
       exact⟨_,HOE,Lib.hid (grown_drew HG6.out)⟩
    case' rest=>
     obtain⟨X,HO8,HG8⟩:=hcut;have HTW:Hid (∀V,w5.grownBy V (Value.slice Av L.length cv).ownBlock→Turned (OBk (.slice Av L.length cv) L) W2 V):=Lib.hid (fun V hg=>HT5.out.trans ((turned_grown hg).imp fun _ _ e=> .inl e));have HST:=Lib.hid (fun V (hg:w5.grownBy V (Value.slice Av L.length cv).ownBlock)=>HSS.out V (HTW.out V hg));have HSB:=Lib.hid (fun V (hg:w5.grownBy V (Value.slice Av L.length cv).ownBlock)=>HBT.out V (HTW.out V hg));have hlt5:(L.take P).length=P:=by rw[List.length_take];omega
     have hlenX:(L.take P++X::L.drop P).length=L.length+1:=by rw[List.length_append,List.length_cons,List.length_take,List.length_drop];omega
     have HLT5:=Lib.hid hlt5;have HG6C:Hid (g6<wc.heap.size):=Lib.hid (HO8.out.lt g6 rfl).2;have HWC:Hid (w5.heap.size≤wc.heap.size):=Lib.hid HG8.out.size;have HBSE:Hid (w0.heap.size≤wc.heap.size):=Lib.hid (HSB.out _ HG8.out).size;clear hlt5 hlenX hw hw1 i2 i5 hcn HL1 HL2' HA1 HBX HZ1 HZ6 HG6
     go_upto_region 10 with fail
     go_cut[]from 68 to 79 (fun wx=> ∃(v8 vb8:Value) (bags8:List (Value×List Tl)),Hid (Tq w5 w0.heap.size (.slice Av L.length cv) L wx (.slice (some ⟨g6,0,none⟩) (L.length+1) cap6) (L.take P++⟨v8,cellsG p r,0,vb8,bags8⟩::L.drop P))∧Hid (bags8=List.replicate p.aggs.length (.slice none 0 0,[])))
     case' first=>
      refine tr (S:=(fun w'=>w'.cell? ⟨w.heap.size,0,none⟩=some (.int .i64 p.kind)∧w'.cell? ⟨w.heap.size,1,none⟩=some (.int .i64 p.mode)∧w'.cell? ⟨w.heap.size,2,none⟩=some (.int .i64 p.low)∧w'.cell? ⟨w.heap.size,3,none⟩=some (.int .i64 p.high)∧w'.cell? ⟨w.heap.size,4,none⟩=some (.int .i64 p.size)∧w'.cell? ⟨w.heap.size,5,none⟩=some (.int .i64 p.limit)∧w'.cell? ⟨w.heap.size,6,none⟩=some (.slice A0 p.left.length c0)∧w'.cell? ⟨w.heap.size,7,none⟩=some (.slice A1 p.right.length c1)∧w'.cell? ⟨w.heap.size,8,none⟩=some (.slice A2 p.lkeys.length c2)∧w'.cell? ⟨w.heap.size,9,none⟩=some (.slice A3 p.rkeys.length c3)∧w'.cell? ⟨w.heap.size,10,none⟩=some (.bool p.grouped)∧w'.cell? ⟨w.heap.size,11,none⟩=some (.slice A4 p.group.length c4)∧w'.cell? ⟨w.heap.size,12,none⟩=some (.slice A5 p.aggs.length c5)∧w'.cell? ⟨w.heap.size+1,1,none⟩=some (.slice Ar r.length cr))) (HST.out _ (grown_drew HG8.out)) (fun hHeld=> ?_);refine tk 0 ?_;refine tk 1 ?_;refine tk 2 ?_;refine tk 3 ?_;refine tk 4 ?_;refine tk 6 ?_;refine tk 7 ?_;refine tk 8 ?_;refine tc2 5 9 ?_ ?_<;>
      (intro K hK
       go_simp
       first
        |(have hga:=grown_drew (grown_trans HG8.out (grown_of_below (below_alloc wc (.cells zs 107)) _))
          refine hK.out _ _ (HST.out _ hga) (fun hHeld9=> ?_);clear hK K;refine tc 5 ?_;intro K hK;go_simp;refine Calls.mono (by with_reducible exact HGO.out _ (HSB.out _ hga)) ?_;rintro e w8 ⟨v8,rfl,hown8,hb8⟩;obtain⟨B8,m8,d8,rfl⟩:=own_slice hown8;have hgb:=grown_trans hga (grown_of_below hb8 _)
          go_wp2_with fail
          refine hK.out _ _ (HST.out _ hgb) (fun hHeld5=> ?_);clear hK K;refine tk 10 ?_;refine tk 11 ?_;have hge8:=own_ge hown8;rw[World.size_drew,World.size_alloc]at hge8;have hbsz:(wc.alloc (.cells zs 107)).drew.heap.size=wc.heap.size+1:=by rw[World.size_drew,World.size_alloc]
          have hx:=OG.made (base:=wc.heap.size) (own_le hown8 (by rw[hbsz];omega)) ((Blk.new wc 107 zs).drew.below hb8) (Nat.le_refl _) HZL.out HZS.out (by omega) (fun e=>by have:=hge8 _ e;omega);have HO9:=Lib.hid (own_below HO8.out (below_trans (below_alloc wc (.cells zs 107)).drew hb8));have hlenX:(L.take P++X::L.drop P).length=L.length+1:=by rw[List.length_append,List.length_cons,List.length_take,List.length_drop];omega
          have f0:=HO9.out.frozenAt (P*3);have f1:=HO9.out.frozenAt (P*3+1);have f2:=HO9.out.frozenAt (P*3+2);have hXi:(L.take P++X::L.drop P)[P]?=some X:=by rw[List.getElem?_append_right (by rw[HLT5.out];omega),HLT5.out,Nat.sub_self];rfl
          have hsx:=Sl.of_own HO9.out;rw[←hlenX]at hsx;obtain⟨b',off',hA',-,hcl⟩:=gm_at hsx rfl hXi;injection hA' with hA';injection hA' with e1 e2;subst e1 e2;obtain⟨d0,d1,d2⟩:=hcl _ (Below.refl _ _);simp only[Nat.zero_add]at d0 d1 d2;obtain⟨s0,t0⟩:=HO9.out.stored (P*3) (.slice B8 m8 d8);obtain⟨s1,t1⟩:=s0.stored (P*3+1) (.int .i64 0);obtain⟨s2,t2⟩:=s1.stored (P*3+2) (.slice (some ⟨wc.heap.size,0,none⟩) p.aggs.length p.aggs.length);have e5:=gm_lay (L.take P) (L.drop P) X ⟨.slice B8 m8 d8,cellsG p r,0,(.slice (some ⟨wc.heap.size,0,none⟩) p.aggs.length p.aggs.length),List.replicate p.aggs.length (.slice none 0 0,[])⟩;rw[HLT5.out]at e5;rw[e5]at s2;have hlenN:(L.take P++(⟨.slice B8 m8 d8,cellsG p r,0,(.slice (some ⟨wc.heap.size,0,none⟩) p.aggs.length p.aggs.length),List.replicate p.aggs.length (.slice none 0 0,[])⟩:Gm)::L.drop P).length=L.length+1:=by rw[List.length_append,List.length_cons,List.length_take,List.length_drop];omega
          have HTQ:=Lib.hid (Tq.put (m:=wc.heap.size) (L1:=L.take P) (L2:=L.drop P) (v:= .slice Av L.length cv) (by rw[List.take_append_drop];exact HL5.out) hgb (hx.le HBSE.out) (fun k hk=>(hx.range k hk).1) HG6C.out HWC.out (HROW.out g6 rfl) (by rw[hlenN];exact s2) (grown_trans (grown_trans t0 t1) t2));rw[List.take_append_drop]at HTQ;have HGF:=Lib.hid (grown_new hgb (grown_trans (grown_trans t0 t1) t2) HROW.out);clear s0 s1 s2 t0 t1 t2 e5 hlenN hsx hcl hlenX hXi hx hown8;refine tc 12 ?_;intro K hK;go_simp;refine hK.out _ _ (HST.out _ HGF.out) (fun hHeld12=> ?_);clear hK K;refine td ?_;go_wp2
          go_meet
          exact⟨_,_,_,HTQ,Lib.hid rfl⟩)
        |(refine Calls.mono (by with_reducible exact HGO.out _ (HSB.out _ (grown_drew HG8.out))) ?_
          rintro e w7 ⟨v8,rfl,hown8,hb8⟩;obtain⟨B8,m8,d8,rfl⟩:=own_slice hown8;have hga:=grown_trans (grown_drew HG8.out) (grown_of_below hb8 _)
          go_wp2_with fail
          refine hK.out _ _ (HST.out _ hga) (fun hHeld5=> ?_);clear hK K;refine tc 9 ?_;intro K hK;go_simp;have hgb:=grown_trans hga (grown_of_below (below_alloc w7 (.cells zs 107)) _);refine hK.out _ _ (HST.out _ hgb) (fun hHeld9=> ?_);clear hK K;refine tk 10 ?_;refine tk 11 ?_;have hlt8:=own_lt hown8;have hsz8:=hb8.size;rw[World.size_drew]at hsz8;have hx:=OG.made (base:=wc.heap.size) ((own_le hown8 (by rw[World.size_drew];omega)).alloc (.cells zs 107)) (Blk.new w7 107 zs) hsz8 HZL.out HZS.out (by omega) (fun e=>by have:=hlt8 _ e;omega);have HO9:=Lib.hid (own_below HO8.out (below_trans (below_trans (Below.refl _ wc).drew hb8) (below_alloc w7 (.cells zs 107))));obtain⟨w8,hw8⟩: ∃V,w7.alloc (.cells zs 107)=V:=⟨_,rfl⟩;rw[hw8]at hx HO9 hgb hHeld9⊢;clear hw8;have hlenX:(L.take P++X::L.drop P).length=L.length+1:=by rw[List.length_append,List.length_cons,List.length_take,List.length_drop];omega
          have f0:=HO9.out.frozenAt (P*3);have f1:=HO9.out.frozenAt (P*3+1);have f2:=HO9.out.frozenAt (P*3+2);have hXi:(L.take P++X::L.drop P)[P]?=some X:=by rw[List.getElem?_append_right (by rw[HLT5.out];omega),HLT5.out,Nat.sub_self];rfl
          have hsx:=Sl.of_own HO9.out;rw[←hlenX]at hsx;obtain⟨b',off',hA',-,hcl⟩:=gm_at hsx rfl hXi;injection hA' with hA';injection hA' with e1 e2;subst e1 e2;obtain⟨d0,d1,d2⟩:=hcl _ (Below.refl _ _);simp only[Nat.zero_add]at d0 d1 d2;obtain⟨s0,t0⟩:=HO9.out.stored (P*3) (.slice B8 m8 d8);obtain⟨s1,t1⟩:=s0.stored (P*3+1) (.int .i64 0);obtain⟨s2,t2⟩:=s1.stored (P*3+2) (.slice (some ⟨w7.heap.size,0,none⟩) p.aggs.length p.aggs.length);have e5:=gm_lay (L.take P) (L.drop P) X ⟨.slice B8 m8 d8,cellsG p r,0,(.slice (some ⟨w7.heap.size,0,none⟩) p.aggs.length p.aggs.length),List.replicate p.aggs.length (.slice none 0 0,[])⟩;rw[HLT5.out]at e5;rw[e5]at s2;have hlenN:(L.take P++(⟨.slice B8 m8 d8,cellsG p r,0,(.slice (some ⟨w7.heap.size,0,none⟩) p.aggs.length p.aggs.length),List.replicate p.aggs.length (.slice none 0 0,[])⟩:Gm)::L.drop P).length=L.length+1:=by rw[List.length_append,List.length_cons,List.length_take,List.length_drop];omega
          have HTQ:=Lib.hid (Tq.put (m:=wc.heap.size) (L1:=L.take P) (L2:=L.drop P) (v:= .slice Av L.length cv) (by rw[List.take_append_drop];exact HL5.out) hgb (hx.le HBSE.out) (fun k hk=>(hx.range k hk).1) HG6C.out HWC.out (HROW.out g6 rfl) (by rw[hlenN];exact s2) (grown_trans (grown_trans t0 t1) t2));rw[List.take_append_drop]at HTQ;have HGF:=Lib.hid (grown_new hgb (grown_trans (grown_trans t0 t1) t2) HROW.out);clear s0 s1 s2 t0 t1 t2 e5 hlenN hsx hcl hlenX hXi hx hown8;refine tc 12 ?_;intro K hK;go_simp;refine hK.out _ _ (HST.out _ HGF.out) (fun hHeld12=> ?_);clear hK K;refine td ?_;go_wp2
          go_meet
          exact⟨_,_,_,HTQ,Lib.hid rfl⟩))
     case' rest=>
      obtain⟨xv,xvb,xbags,HTQ,HBG8⟩:=hcut;have HT:Hid (Tq W2 w0.heap.size (.slice Av L.length cv) L wc (.slice (some ⟨g6,0,none⟩) (L.length+1) cap6) (L.take P++⟨xv,cellsG p r,0,xvb,xbags⟩::L.drop P)):=Lib.hid ((((Tq.start HL2.out).below HB25.out)).trans HTQ.out);obtain⟨xr,hxr⟩: ∃y,cellsG p r=y:=⟨_,rfl⟩;obtain⟨xn,hxn⟩: ∃y:Int,0=y:=⟨0,rfl⟩;have HP1:=HLT5;have hbm:xbags.map (·.2)=p.aggs.map fun _=>[]:=by rw[HBG8.out,List.map_replicate,List.map_const']
      have HE:Hid (TG=turnP p r n (gps (L.take P)) ⟨xr,xn,xbags.map (·.2)⟩ (gps (L.drop P))):=Lib.hid (by
       have e2:gps (L.take P)=(gps L).take P:=List.map_take;have e3:gps (L.drop P)=(gps L).drop P:=List.map_drop;rw[e2,e3,hbm,←hxr,←hxn];exact HE0.out)
      have HBL:Hid (xbags.length=p.aggs.length):=Lib.hid (by rw[HBG8.out,List.length_replicate]);have HBK:Hid (∀q∈p.aggs.zip (xbags.map (·.2)),BagOk p q.1 xn q.2):=Lib.hid (by rw[hbm,←hxn];exact(bags_none p).2);have HGX:Hid (xr=cellsG p r):=Lib.hid hxr.symm;rw[hxr,hxn]at HT;have HN:Hid ((L.take P++⟨xv,xr,xn,xvb,xbags⟩::L.drop P).length=L.length+1):=Lib.hid (by rw[List.length_append,List.length_cons,List.length_take,List.length_drop];omega);have hn0:0≤xn∧xn≤1073741824:=by omega
      obtain⟨N9,hN9⟩: ∃y,L.length+1=y:=⟨_,rfl⟩;rw[hN9]at HT HN⊢;have hb9:N9≤4097∧P<N9:=by omega
      have i1:(P:Int)<(N9:Int):=by omega
      clear hN9 i7 i6 hbm hxr hxn HTQ HBG8 HE0 HTW HST HSB HG8 HO8 HROW HG6C HWC HBSE HLT5;generalize L.take P=L1 at HT HE HP1 HN;generalize L.drop P=L2 at HT HE HN;generalize wc=w7 at HT⊢
      (try clear HTN
       try clear HTH
       try clear HSP
       try clear HPL
       try clear HGO
       try clear HSG
       try clear HL5
       try clear HT5
       try clear HB05
       try clear HB25
       try clear HS4
       try clear HGG
       try clear HL2
       have hO:=HT.out.gs.each _ (mem_at _ _ _);obtain⟨gb,capb,e1,hgb,hgl⟩:=hO.sl.form (by have:=HBL.out;show 0<xbags.length;omega);simp only at e1;subst e1;have d1:=(HT.out.gs.cells HP1.out).2.1;have hown7:=HT.out.gs.own;rw[HN.out]at hown7;have f1:=hown7.frozenAt (P*3+1);clear hown7;have hw1:IntKind.i64.wrap (xn+n)=xn+n:=by rw[IntKind.wrap_i64];have:=HN2.out;omega
       obtain⟨xm,hxm⟩: ∃y,xn+n=y:=⟨_,rfl⟩;have HXM:=Lib.hid hxm;have hs8:=Tq.setN (g:=g6) (cap:=cap6) (L1:=L1) (L2:=L2) (by rw[HN.out];exact HT.out.gs) (xn+n);simp only at hs8;rw[HN.out,HP1.out]at hs8;have hT8:=HT.out.trans hs8;have hn2:=HN2.out;have HT8:Hid (Tq W2 w0.heap.size (.slice Av L.length cv) L (w7.setCell ⟨g6,P*3+1,none⟩ (.int .i64 (xn+n))) (.slice (some ⟨g6,0,none⟩) N9 cap6) (L1++⟨xv,xr,xm,.slice (some ⟨gb,0,none⟩) xbags.length capb,xbags⟩::L2)):=Lib.hid (by rw[←hxm];exact hT8);have z12:=(HBOX.out _ HT8.out.turned).1.cell 12 _ rfl;have HN9:Hid (∀y:Gm,(L1++y::L2).length=N9):=Lib.hid (fun y=>by rw[←HN.out];simp);clear hxm hT8 hO hgb hgl hs8
       go_wp2_with fail
       go_loopw[11,12] (fun iv _ wr=> ∃(i:Nat) (xb:List (Value×List Tl)),i≤p.aggs.length∧iv= .int .i64 i∧Hid (Tq W2 w0.heap.size (.slice Av L.length cv) L wr (.slice (some ⟨g6,0,none⟩) N9 cap6) (L1++⟨xv,xr,xm,.slice (some ⟨gb,0,none⟩) xbags.length capb,xb⟩::L2))∧Hid (BagSt r n p.aggs (xbags.map (·.2)) (xb.map (·.2)) i)) (fun iv _ _=>p.aggs.length-(intOf iv).toNat)
       case atStart=>exact⟨0,xbags,by omega,rfl,HT8,Lib.hid (BagSt.start _ _ _ _)⟩
       case round=>
        rename World=>wr1
        clear z12 f1 d1;obtain⟨i,xb,hi,rfl,HTi,HBi⟩:=hrel;have HWR:=Lib.hid (HBT.out _ HTi.out.turned);have z12:=(HBOX.out _ HTi.out.turned).1.cell 12 _ rfl;have HLB:Hid (xb.length=xbags.length):=Lib.hid (by have:=HBi.out.len;rw[List.length_map,List.length_map]at this;exact this);by_cases hlt:i<p.aggs.length
        ·have ha:=List.getElem?_eq_getElem (l:=p.aggs) hlt
         generalize p.aggs[i]=a at ha;obtain⟨g5,o5,hA5,-,hc5⟩:=agg_at HP.out.a HVA.out ha;subst hA5;obtain⟨e0,e1⟩:=hc5 _ HWR.out;obtain⟨af,ac⟩:=a;simp only at e0 e1;have HHA:=Lib.hid ha;have j0:(0:Int)≤(i:Int):=by omega
         have j1:(i:Int)<(p.aggs.length:Int):=by omega
         by_cases h1:af=1
         ·have hb1:=beqT h1
          have HBj:=Lib.hid (HBi.out.same HHA.out (by rw[List.length_map];have:=HLB.out;have:=HBL.out;omega) h1);clear h1 ha hc5
          go_wp2_with fail
          go_roundw
          case rel=>
           first
            |exact⟨i+1,xb,by omega,by go_num,HTi,HBj⟩
            |((repeat apply Exists.intro);exact⟨⟨i+1,xb,by omega,by go_num,HTi,HBj⟩,rfl⟩)
          case measure=>simp[intOf];omega
         ·have hb1:=beqF h1
          have hfa:=HFA.out (af,ac) (List.mem_of_getElem? HHA.out) h1;obtain⟨z,hz1,-⟩:=HAG.out (af,ac) (List.mem_of_getElem? HHA.out) h1;simp only at hfa hz1;obtain⟨m,rfl⟩: ∃m:Nat,ac=m:=⟨ac.toNat,by omega⟩;rw[Int.toNat_natCast]at hz1;have hml:m<r.length:=(List.getElem?_eq_some_iff.1 hz1).1;have m0:(0:Int)≤(m:Int):=by omega
          have m1:(m:Int)<(r.length:Int):=by omega
          have HZG:Hid (r.getD ((m:Int)).toNat nullG=z):=Lib.hid (by simp[List.getD,hz1]);have hzr:GoodR [z]:=good_at HCG.out (List.mem_of_getElem? hz1);obtain⟨gr,orr,hAr,-,hcr⟩:=val_at HR.out rfl hz1;subst hAr;obtain⟨zk,zn,zt⟩:=z;have hlb:i<xb.length:=by have:=HLB.out;have:=HBL.out;omega
          have hq:=List.getElem?_eq_getElem (l:=xb) hlb;generalize xb[i]=q at hq;obtain⟨qv,ql⟩:=q;have hqm:(xb.map (·.2))[i]?=some ql:=by rw[List.getElem?_map,hq];rfl
          have hq2:(xbags.map (·.2))[i]?=some ql:=by
           have h2:=congrArg (fun l=>l[0]?) HBi.out.rest;simp only[List.getElem?_drop,Nat.add_zero]at h2;rw[←h2];exact hqm
          have hbk:=HBK.out ((af,(m:Int)),ql) (List.mem_iff_getElem?.2 ⟨i,by rw[List.getElem?_zip_eq_some];exact⟨HHA.out,hq2⟩⟩);rcases hbk with⟨e,-⟩|⟨-,hgt,hsum⟩
          ·exact absurd e h1
          have hgt:GoodT ((allT p).getD ((m:Int)).toNat 0) ql:=hgt;have hsum:sumT ql=xn:=hsum;have hlen2:=sumT_len hgt.vals
          have hle2: ∀x∈ql,-1099511627776≤x.n∧x.n≤1099511627776:=fun x hx=>by
           have h2:=sumT_le hgt.vals hx;have h3:=(hgt.vals x hx).2.2;omega
          have hTd:=HTi.out.below (Below.refl _ wr1).drew;have hbd:=HBT.out _ hTd.turned;have hO:=hTd.gs.each _ (mem_at _ _ _);have hqb:(qv,ql)∈xb:=List.mem_of_getElem? hq;have HSL:Hid (wr1.drew.ownsRow w0.heap.size 107 1 (.slice (some ⟨gb,0,none⟩) xbags.length capb) xbags.length (xb.map (·.1))):=Lib.hid (by have h2:=hO.sl;simp only at h2;rw[HLB.out]at h2;exact h2);obtain⟨TY,hTY⟩: ∃y,tallyG ql ⟨zk,zn,zt⟩ n=y:=⟨_,rfl⟩;have HADD:=Lib.hid (rtally_any qv ql ⟨zk,zn,zt⟩ n w0.heap.size _ ⟨hO.bag _ hqb⟩ hbd.size (by omega) hgt.up hzr hle2 HN2.out);rw[hTY]at HADD;have HTY:=Lib.hid hTY;clear hTY;obtain⟨tl,tok⟩:=TY
          have HS6:=Lib.hid (fun V (ht:Turned (XBk (⟨xv,xr,xm,.slice (some ⟨gb,0,none⟩) xbags.length capb,xb⟩:Gm)) wr1.drew V)=>And.intro
           (own_cells (own_turned hTd.gs.own ht (fun k hk hx=>hTd.gs.far _ (mem_at _ _ _) k hx hk)) HP1.out).2.2
           (And.intro ((HBOX.out _ (hTd.turned.transN ht (fun k hk hx=>hTd.old k hk (.inr ⟨_,mem_at _ _ _,hx⟩)))).2.cell 1 _ rfl)
            (And.intro ((HBOX.out _ (hTd.turned.transN ht (fun k hk hx=>hTd.old k hk (.inr ⟨_,mem_at _ _ _,hx⟩)))).1.cell 12 _ rfl)
             (And.intro ((hc5 V (below_turned hbd ht (fun k hk=>(hO.range k hk).1))).2) (hcr V (below_turned hbd ht (fun k hk=>(hO.range k hk).1)))))))
          have HTD:=Lib.hid hTd;have HOO:=Lib.hid hO;have HQB:=Lib.hid hqb;have HQ:=Lib.hid hq;have HQM:=Lib.hid hqm;have HH1:=Lib.hid h1;have j2:(i:Int)<(xbags.length:Int):=by have:=HBL.out;omega
          have HIL:Hid (i<xb.length):=Lib.hid hlb;clear hTd hO hqb hq hqm h1 hbd hq2 hgt hsum hlen2 hle2 hz1 hfa hcr hzr ha hc5
          go_upto_region 17 with fail
          refine tr (S:=(fun w'=>w'.cell? ⟨g6,P*3+2,none⟩=some (.slice (some ⟨gb,0,none⟩) xbags.length capb)∧w'.cell? ⟨w.heap.size+1,1,none⟩=some (.slice (some ⟨gr,orr,none⟩) r.length cr)∧w'.cell? ⟨w.heap.size,12,none⟩=some (.slice (some ⟨g5,o5,none⟩) p.aggs.length c5)∧w'.cell? ⟨g5,o5+i*2+1,none⟩=some (.int .i64 m)∧w'.cell? ⟨gr,orr+m*3,none⟩=some (.int .i64 zk)∧w'.cell? ⟨gr,orr+m*3+1,none⟩=some (.int .i64 zn)∧w'.cell? ⟨gr,orr+m*3+2,none⟩=some (.string zt))) (HS6.out _ (Turned.refl _ _)) (fun hHeld=> ?_);refine tk 0 ?_;refine tk 1 ?_;refine tk 2 ?_;refine tk 3 ?_;refine tk 4 ?_;refine tk 5 ?_;refine tk 6 ?_;refine tk 7 ?_;refine tk 8 ?_;refine tk 9 ?_;refine tk 10 ?_;refine tk 11 ?_;refine tk 12 ?_;refine tk 14 ?_;refine tk 15 ?_;refine tk 16 ?_;refine tk 17 ?_;refine tk 18 ?_;refine tk 19 ?_;refine tk 20 ?_;refine tk 21 ?_;refine tk 22 ?_;refine tk 23 ?_;refine tk 24 ?_;refine tc 13 ?_;intro K hK;have dq:=(HSL.out.cellAt i (by have:=HIL.out;have:=HLB.out;omega)).trans (show(xb.map (·.1))[i]?=some qv by rw[List.getElem?_map,HQ.out];rfl);go_simp;clear dq;refine hK.out _ _ (HS6.out _ (Turned.refl _ _)) (fun hHeld13=> ?_);clear hK K;refine tc 25 ?_;intro K hK;go_simp;refine Calls.mono (by with_reducible exact HADD.out) ?_;rintro e w6 ⟨uq,rfl,⟨l6,ho6,hl6⟩,hg6,hat6⟩;obtain⟨Aq,nq,cq,e6⟩:=own_slice ho6.own;subst e6;have HT6:=Lib.hid ((turned_grown hg6).imp (G:=XBk (⟨xv,xr,xm,.slice (some ⟨gb,0,none⟩) xbags.length capb,xb⟩:Gm)) (fun k _ h=>Or.inr (Or.inr ⟨_,HQB.out,h⟩)))
          go_wp2_with fail
          refine hK.out _ _ (HS6.out _ HT6.out) (fun hHeld25=> ?_);clear hK K;refine tk 26 ?_;refine tk 27 ?_;refine tk 28 ?_;refine tk 29 ?_;refine tc 30 ?_;intro K hK;have hown6:=own_turned HSL.out (turned_grown hg6) (fun k hk e=>HOO.out.vbq k hk _ HQB.out e);have dq:=(hown6.cellAt i (by have:=HIL.out;have:=HLB.out;omega)).trans (show(xb.map (·.1))[i]?=some qv by rw[List.getElem?_map,HQ.out];rfl);have fq:=hown6.frozenAt i;have hset:=HOO.out.setBag (g:=gb) (cap:=capb) (u:= .slice Aq nq cq) (l:=l6) (by show Value.slice _ _ _=Value.slice _ xb.length _;rw[HLB.out]) HQ.out hg6 ho6 hat6;have HSET:=Lib.hid hset;clear hset hown6 hat6 ho6 hg6;go_simp;clear dq fq;refine hK.out _ _ (HS6.out _ HSET.out.2.1) (fun hHeld30=> ?_);clear hK K;refine tk 31 ?_;refine td ?_;have HTf:=Lib.hid (HTD.out.trans (Tq.upd HTD.out.gs HSET.out.2.1 HSET.out.1 rfl HSET.out.2.2));cases tok with
          |false=>
           have HE9:Hid (TG=([],9)):=Lib.hid (by
            have h2:=HBi.out.fail HHA.out HQM.out HH1.out (by simp only;rw[HZG.out,HTY.out]);rw[HE.out];unfold turnP;rw[if_neg (by rw[h2];simp)])
           go_wp2
           go_ret2
           exact⟨_,by rw[HE9.out];rfl,(HTf.out.pre HW.out).turned,fun h0=>by rw[HE9.out]at h0;exact absurd h0 (by decide)⟩
          |true=>
           obtain rfl:l6=tl:=hl6 rfl
           have HBj:Hid (BagSt r n p.aggs (xbags.map (·.2)) ((xb.set i (.slice Aq nq cq,l6)).map (·.2)) (i+1)):=Lib.hid (by
            have h2:=HBi.out.done HHA.out HQM.out HH1.out (by simp only;rw[HZG.out,HTY.out]);simp only at h2;rw[HZG.out,HTY.out]at h2;rw[List.map_set];exact h2)
           go_wp2_with fail
           go_roundw
           case rel=>
            first
             |exact⟨i+1,xb.set i (.slice Aq nq cq,l6),by omega,by go_num,HTf,HBj⟩
             |((repeat apply Exists.intro);exact⟨⟨i+1,xb.set i (.slice Aq nq cq,l6),by omega,by go_num,HTf,HBj⟩,rfl⟩)
           case measure=>simp[intOf];omega
        ·obtain rfl:i=p.aggs.length:=by omega
         have hen:=HBi.out.end_ (by rw[List.length_map];have:=HLB.out;have:=HBL.out;omega)
         have HE2:Hid (TG=(gps L1++((if xm=0 then[]else[⟨xr,xm,xb.map (·.2)⟩])++gps L2),0)):=Lib.hid (by
          rw[HE.out];unfold turnP;rw[if_pos hen.1,hen.2,←HXM.out])
         have d1:=(HTi.out.gs.cells HP1.out).2.1;simp only at d1;clear hen;by_cases hz:xm=0
         ·have hb1:=beqT hz
          have HE3:Hid (TG=(gps L1++gps L2,0)):=Lib.hid (by rw[HE2.out,if_pos hz];rfl);clear hz
          have hcutP:(L1++(⟨xv,xr,xm,.slice (some ⟨gb,0,none⟩) xbags.length capb,xb⟩:Gm)::L2).take P=L1∧(L1++(⟨xv,xr,xm,.slice (some ⟨gb,0,none⟩) xbags.length capb,xb⟩:Gm)::L2).drop (P+1)=L2:=by
           have:=HP1.out;subst this;exact⟨by simp,by simp⟩
          have HSUB:Hid ((L1++L2).Sublist (L1++(⟨xv,xr,xm,.slice (some ⟨gb,0,none⟩) xbags.length capb,xb⟩:Gm)::L2)):=Lib.hid (List.Sublist.append (List.Sublist.refl _) (List.sublist_cons_self _ _));have hown3:=HTi.out.gs.own;rw[HN9.out]at hown3;have HO3:=Lib.hid hown3;have HTT:=HTi;obtain⟨Ac,cc,hvc,hcc1,hcc2,-⟩:=Sl.of_own hown3;injection hvc with u1 u2 u3;subst u3;unfold maxLen at hcc2;have hn9:=HN9.out (⟨xv,xr,xm,.slice (some ⟨gb,0,none⟩) xbags.length capb,xb⟩:Gm);obtain⟨LL,hLL⟩: ∃y,L1++(⟨xv,xr,xm,.slice (some ⟨gb,0,none⟩) xbags.length capb,xb⟩:Gm)::L2=y:=⟨_,rfl⟩;rw[hLL]at hcutP HSUB HO3 HTT hn9;have HTK:=Lib.hid hcutP.1;have HDR:=Lib.hid hcutP.2;have i2:(P:Int)+1≤(N9:Nat):=by omega
          have i3:(P:Int)≤(cap6:Int):=by omega
          have i4:(P:Int)≤(P:Int)+1:=by omega
          have hw:IntKind.i64.wrap ((P:Int)+1)=(P:Int)+1:=by rw[IntKind.wrap_i64];omega
          have hw0:(0:Int)≤(P:Int)+1:=by omega
          have hwn:((P:Int)+1).toNat=P+1:=by omega
          have HP9:=Lib.hid (show wr1.drew.ownsRow w0.heap.size 97 3 (.slice (some ⟨g6,0,none⟩) P cap6) P (gmCells L1)from by
           have:=own_prefix HO3.out (k:=P) (by omega);rwa[gm_take,HTK.out]at this)
          have HLT:Hid ((L1++L2).length=P+(N9-(P+1))):=Lib.hid (by have h1:=HN9.out ⟨.slice none 0 0,[],0,.slice none 0 0,[]⟩;have h2:=HP1.out;rw[List.length_append,List.length_cons]at h1;rw[List.length_append];omega);have HLD:=Lib.hid (show(gmCells L2).length=(N9-(P+1))*3 from by rw[gmCells_len];have h1:=HLT.out;have h2:=HP1.out;rw[List.length_append]at h1;congr 1;omega);have HM1:Hid (P+(N9-(P+1))≤maxLen):=Lib.hid (by unfold maxLen;omega);have HM2:Hid ((P+(N9-(P+1)))*56≤140737488355328):=Lib.hid (by omega);have HBS:Hid (w0.heap.size≤wr1.drew.heap.size):=Lib.hid HWR.out.size;have HONE:Hid (∀u∈gmCells L2,u.oneCell'=true):=Lib.hid (HTT.out.gs.oneL (fun y hy=>HSUB.out.mem (List.mem_append_right _ hy)));have hlenL2:L2.length=N9-(P+1):=by have h1:=HLT.out;have h2:=HP1.out;rw[List.length_append]at h1;omega
          clear hown3 hcutP u1;by_cases hcap:cap6=P+1
          ·subst hcap
           have HDN:Hid (L2=[]):=Lib.hid (List.length_eq_zero_iff.1 (by omega));have hlen0:N9-(P+1)=0:=by omega
           have HD:=Lib.hid (fun n c (h:n≤c) (hc:c≤maxLen)=>sl_none (w:=wr1.drew) (A:=⟨g6,0,none⟩) h hc)
           go_upto_region 21 with fail
           refine tr (S:=(fun _=>True)) trivial (fun hHeld=> ?_);refine tk 0 ?_;refine tk 1 ?_;refine tk 2 ?_;refine tk 3 ?_;refine tk 4 ?_;refine tk 5 ?_;refine tk 6 ?_;refine tc 7 ?_;intro K hK;refine step_app (by rfl) (.tmp 146) (.tmp 150) 26 (by rfl) w0.heap.size 97 3 56 Tryz.underlying26 grpI _ P (gmCells L1) (by rfl) HP9.out _ 0 [] (by rfl) (HD.out _ _ (by omega) (by unfold maxLen;omega)) (by rfl) (by simp) (by unfold maxLen;omega) (by omega) HBS.out ?_;intro v4 w4 hown4 hg4 hat4;refine hK.out _ _ trivial (fun hHeld7=> ?_);clear hK K;refine tk 8 ?_;refine td ?_;have HN4:Hid (w4.ownsRow w0.heap.size 97 3 v4 (L1++L2).length (gmCells (L1++L2))):=Lib.hid (by rw[HLT.out,gmCells_app,HDN.out];simpa[gmCells,hlen0]using hown4);have HT9:=Lib.hid (HTT.out.trans (Tq.cut HTT.out.gs HN4.out (drew_grown hg4) (hat4.imp id fun e k hk=>by rw[e]at hk;injection hk with hk;exact Nat.le_of_eq hk) HSUB.out));clear hown4 hg4 hat4;go_wp2
           go_ret2
           exact⟨_,by rw[HE3.out];rfl,(HT9.out.pre HW.out).turned,fun _=>⟨_,HT9.out.pre HW.out,by rw[HE3.out,gps_app]⟩⟩
          ·have HD:=Lib.hid (show Sl wr1.drew (.slice (some ⟨g6,(P+1)*3,none⟩) (N9-(P+1)) (cap6-(P+1))) (N9-(P+1)) (gmCells L2)from by
            have:=(Sl.of_own HO3.out).drop (size:=3) (by rw[gmCells_len,hn9]) (k:=P+1) (by omega);rw[if_neg hcap,gm_drop,HDR.out]at this;have h2:Sl wr1 (.slice (some ⟨g6,(P+1)*3,none⟩) (N9-(P+1)) (cap6-(P+1))) (N9-(P+1)) (gmCells L2):=by simpa[Addr.add]using this
            exact h2.drew)
           go_upto_region 21 with fail
           refine tr (S:=(fun _=>True)) trivial (fun hHeld=> ?_);refine tk 0 ?_;refine tk 1 ?_;refine tk 2 ?_;refine tk 3 ?_;refine tk 4 ?_;refine tk 5 ?_;refine tk 6 ?_;refine tc 7 ?_;intro K hK;refine step_app (by rfl) (.tmp 146) (.tmp 150) 26 (by rfl) w0.heap.size 97 3 56 Tryz.underlying26 grpI _ P (gmCells L1) (by rfl) HP9.out _ (N9-(P+1)) (gmCells L2) (by rfl) HD.out HLD.out HONE.out HM1.out HM2.out HBS.out ?_;intro v4 w4 hown4 hg4 hat4;refine hK.out _ _ trivial (fun hHeld7=> ?_);clear hK K;refine tk 8 ?_;refine td ?_;have HN4:Hid (w4.ownsRow w0.heap.size 97 3 v4 (L1++L2).length (gmCells (L1++L2))):=Lib.hid (by rw[HLT.out,gmCells_app];exact hown4);have HT9:=Lib.hid (HTT.out.trans (Tq.cut HTT.out.gs HN4.out (drew_grown hg4) (hat4.imp id fun e k hk=>by rw[e]at hk;injection hk with hk;exact Nat.le_of_eq hk) HSUB.out));clear hown4 hg4 hat4;go_wp2
           go_ret2
           exact⟨_,by rw[HE3.out];rfl,(HT9.out.pre HW.out).turned,fun _=>⟨_,HT9.out.pre HW.out,by rw[HE3.out,gps_app]⟩⟩
         ·have hb1:=beqF hz
          have HE3:Hid (TG=(gps L1++⟨xr,xm,xb.map (·.2)⟩::gps L2,0)):=Lib.hid (by rw[HE2.out,if_neg hz];rfl);clear hz;go_wp2
          go_ret2
          exact⟨_,by rw[HE3.out];rfl,(HTi.out.pre HW.out).turned,fun _=>⟨_,HTi.out.pre HW.out,by rw[HE3.out,gps_mid];rfl⟩⟩)))
end Go.Proofs.YtblhidmkalleoaaGreatDoor
