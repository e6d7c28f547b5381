/-Groups: View. -/
import Derived.Test.YtjhbeecmdgglgaaGreatDoorGrpV19
import Derived.Test.YtjhbeecmdgglgaaGreatDoorGrpV12
import Derived.Test.YtjhbeecmdgglgaaGreatDoorGrpV9
set_option linter.unusedSimpArgs false
set_option linter.unusedVariables false
namespace Go.Proofs.YtjhbeecmdgglgaaGreatDoor
open Go.RowKit
def viewS (p:Pl) (G:List Gp):AV:=if checkG p G=0 then viewG p G else[]
theorem gm_fit_len {x:Gm}{p:Pl}(h:GoodG1 p x.gp):x.bags.length=p.aggs.length∧x.r.length≤8∧ ∀q∈x.bags,q.2.length≤1099511627776:=by
 have h1:=h.bl;unfold Gm.gp at h1;simp only[List.length_map]at h1;refine⟨h1,h.row.few,fun q hq=> ?_⟩;obtain⟨i,hi,rfl⟩:=List.mem_iff_getElem.1 hq;have h2:(p.aggs.zip x.gp.bags)[i]?=some (p.aggs[i]'(by omega),(x.bags[i]).2):=zip_at (List.getElem?_eq_getElem _) (by unfold Gm.gp;simp[hi]);have hn:=h.num;rcases h.bags _ (List.mem_of_getElem? h2)with⟨-,e⟩|⟨-,hg,hs⟩
 ·have e:(x.bags[i]).2=[]:=e
  rw[e];simp
 ·have:=sumT_len hg.vals
  have hs:sumT (x.bags[i]).2=x.gp.n:=hs;have hg:((x.bags[i]).2.length:Int)≤sumT (x.bags[i]).2:=this;omega
theorem gps_mem {G:List Gm}{x:Gm}(h:x∈G):x.gp∈gps G:=List.mem_map.2 ⟨x,h,rfl⟩
set_option maxHeartbeats 8000000 in
set_option maxRecDepth 10000 in
theorem gview_any (p:Pl)(v:Value)(G:List Gm)(w:World)(h:p.ok w)(hf:p.fit)(hG:Gms w v G)(hGf: ∀x∈G,x.fit)(hm:Mx w):
 Calls Tryz.prog 32 #[.agg #[.int .i64 p.kind,.int .i64 p.mode,.int .i64 p.low,.int .i64 p.high,.int .i64 p.size,.int .i64 p.limit,p.vl,p.vr,p.vk,p.vq,.bool p.grouped,p.vg,p.va],v] w fun e w'=> ∃v' l',e= .returned (.tuple #[v',.int .i64 (checkG p (gps G))])∧View w' v' l'∧av l'=viewS p (gps G)∧Below w.heap.size w w':=by
 have HGS:=Lib.hid hG;have HCK:=Lib.hid (fun W (hb:Below w.heap.size w W)=>gcheck_any p v G W (h.below hb) hf (hG.below hb) hGf (hm.below hb));have HGD:=Lib.hid (fun(hz:checkG p (gps G)=0)=>(check_zeroG (p:=p) (G:=gps G) (fun g hg=>by obtain⟨x,hx,rfl⟩:=List.mem_map.1 hg;exact(hGf x hx).fine)).1 hz);have HRW:=Lib.hid (fun W (hb:Below w.heap.size w W) (hz:checkG p (gps G)=0) (x:Gm) (hx:x∈G)=>let z:=HGD.out hz;let y:=gm_fit_len (z.2.2.each x.gp (gps_mem hx));grow_any p x W (h.below hb).a ((hG.each x hx).below hb) y.1 y.2.1 (group_few z.1 z.2.1).2.2 y.2.2);have HM:=Lib.hid hm;unfold Gm.agg at HRW;have HVS:Hid (viewS p (gps G)=if checkG p (gps G)=0 then viewG p (gps G)else[]):=Lib.hid rfl
 have HIN:Hid (∀(m:List Chn) (hz:checkG p (gps G)=0),ac m=insG p (gps G)→FineC m∧foldS [] m=(viewG p (gps G),0,0)):=Lib.hid (fun m hz hm=>by
  obtain⟨z1,z2,z3⟩:=HGD.out hz
  have hin: ∀c∈m,c.k=1∧GoodR c.r:=fun c hc=>by
   have h1:(c.k,c.r)∈ac m:=List.mem_map.2 ⟨c,hc,rfl⟩;rw[hm]at h1;obtain⟨g,hg,e⟩:=List.mem_map.1 h1;injection e with e1 e2;exact⟨e1.symm,by rw[←e2];exact row_good z1 z2 (z3.each g hg)⟩
  have hlen:m.length≤4096:=by
   have h1:=congrArg List.length hm;unfold ac insG at h1;rw[List.length_map,List.length_map]at h1;rw[h1];exact z3.few
  refine⟨⟨fun c hc=>fine_good (hin c hc).2,fun c hc=>by rw[(hin c hc).1];omega⟩,?_⟩;unfold foldS;rw[show chkV []=0 from rfl,if_neg (by omega),err_ins (fun c hc=>(hin c hc).1) (fun c hc=>(hin c hc).2) hlen,if_neg (by omega),hm];have e:=fold_ins (l:=insG p (gps G)) (A:=[]) (m:=0) (i:=0) (fun c hc=>by obtain⟨g,-,rfl⟩:=List.mem_map.1 hc;rfl) nofun (Nat.le_refl _) (by rw[←hm];unfold ac;rw[List.length_map];omega);exact Prod.ext rfl e)
 have HLN:=Lib.hid (fun hz=>(HGD.out hz).2.2.few);obtain⟨A0,c0,h0,-⟩:=h.l;obtain⟨A1,c1,h1,-⟩:=h.r;obtain⟨A2,c2,h2,-⟩:=h.k;obtain⟨A3,c3,h3,-⟩:=h.q;obtain⟨A4,c4,h4,-⟩:=h.g;obtain⟨A5,c5,h5,-⟩:=h.a;rw[h0,h1,h2,h3,h4,h5]at HCK HRW⊢;clear h hf hG hGf hm h0 h1 h2 h3 h4 h5 HGD;generalize viewS p (gps G)=VS at HVS⊢;generalize checkG p (gps G)=CK at HCK HRW HVS HIN HLN⊢;obtain⟨Av,cv,rfl,nv,mv,-⟩:=id HGS.out.sl;unfold maxLen at mv;have hB:=below_alloc w (.cells #[.int .i64 p.kind,.int .i64 p.mode,.int .i64 p.low,.int .i64 p.high,.int .i64 p.size,.int .i64 p.limit,.slice A0 p.left.length c0,.slice A1 p.right.length c1,.slice A2 p.lkeys.length c2,.slice A3 p.rkeys.length c3,.bool p.grouped,.slice A4 p.group.length c4,.slice A5 p.aggs.length c5] 25);have K0:=Blk.new w 25 #[.int .i64 p.kind,.int .i64 p.mode,.int .i64 p.low,.int .i64 p.high,.int .i64 p.size,.int .i64 p.limit,.slice A0 p.left.length c0,.slice A1 p.right.length c1,.slice A2 p.lkeys.length c2,.slice A3 p.rkeys.length c3,.bool p.grouped,.slice A4 p.group.length c4,.slice A5 p.aggs.length c5];go_enter Tryz.func32,Tryz.ntmps32
 go_wp2_with fail
 refine Calls.mono (by with_reducible exact HCK.out _ hB) ?_;rintro e w1 ⟨rfl,hb1⟩;have hbw1:=below_trans hB hb1;have K1:=Lib.hid (K0.below hb1);clear K0 hb1 HCK hB;by_cases hz:CK=0
 ·have q0:=bneF hz
  have EV:=Lib.hid (HVS.out.trans (if_pos hz));have HLE:=Lib.hid (HLN.out hz);have HIN2:=Lib.hid (fun m=>HIN.out m hz);have HRW2:=Lib.hid (fun W hb x hx=>HRW.out W hb hz x hx);have HCZ:=Lib.hid hz;clear hz HVS HLN HIN HRW
  go_wp2_with fail
  go_loopw[7,9,21] (fun ov _ i wr=> ∃(k:Nat) (m:List Chn),k≤G.length∧i= .int .i64 k∧m.length=k∧Hid (OwnC wr (w.heap.size+1) ov m)∧Hid (ac m=insG p ((gps G).take k))∧Hid (Blk wr w.heap.size 25 #[.int .i64 p.kind,.int .i64 p.mode,.int .i64 p.low,.int .i64 p.high,.int .i64 p.size,.int .i64 p.limit,.slice A0 p.left.length c0,.slice A1 p.right.length c1,.slice A2 p.lkeys.length c2,.slice A3 p.rkeys.length c3,.bool p.grouped,.slice A4 p.group.length c4,.slice A5 p.aggs.length c5])∧Below w.heap.size w wr) (fun _ _ i _=>G.length-(intOf i).toNat)
  case atStart=>exact⟨0,[],by omega,rfl,rfl,Lib.hid (OwnC.nil _ _),Lib.hid rfl,K1,hbw1⟩
  case round=>
   clear K1 hbw1;obtain⟨k,m,hk,rfl,hmk,HO,HA,HK,hbr⟩:=hrel;have HMK:=Lib.hid hmk;clear hmk;by_cases hlt:k<G.length
   ·have hx:=List.getElem?_eq_getElem (l:=G) hlt
    generalize G[k]=x at hx;obtain⟨bb,ob,rfl,-,hcb⟩:=gm_at HGS.out.sl rfl hx;have hxm:=List.mem_of_getElem? hx;obtain⟨d0,d1,d2⟩:=hcb _ hbr;obtain⟨Ax,cx,e1,-⟩:=id (HGS.out.each x hxm).row;obtain⟨Ay,cy,e2,-⟩:=id (HGS.out.each x hxm).sl;have HRX:=Lib.hid (fun W hb=>HRW2.out W hb x hxm);have HST:=Lib.hid (map_step (f:=fun g=>((1:Int),rowG p g)) (gps_at hx));rw[e1,e2]at HRX;rw[e1]at d0;rw[e2]at d2;have KP:=HK.out.alloc (.cells #[.slice Ax x.r.length cx,.int .i64 x.n,.slice Ay x.bags.length cy] 126);have k0:=KP.cell 0 _ rfl;have k1:=KP.cell 1 _ rfl;have k2:=KP.cell 2 _ rfl;have k3:=KP.cell 3 _ rfl;have k4:=KP.cell 4 _ rfl;have k5:=KP.cell 5 _ rfl;have k6:=KP.cell 6 _ rfl;have k7:=KP.cell 7 _ rfl;have k8:=KP.cell 8 _ rfl;have k9:=KP.cell 9 _ rfl;have k10:=KP.cell 10 _ rfl;have k11:=KP.cell 11 _ rfl;have k12:=KP.cell 12 _ rfl;have hB1:=hbr.alloc hbr.size (.cells #[.slice Ax x.r.length cx,.int .i64 x.n,.slice Ay x.bags.length cy] 126);have HO1:=HO.out.alloc (.cells #[.slice Ax x.r.length cx,.int .i64 x.n,.slice Ay x.bags.length cy] 126);have HK1:=Lib.hid (HK.out.alloc (.cells #[.slice Ax x.r.length cx,.int .i64 x.n,.slice Ay x.bags.length cy] 126));clear HK KP hx hcb e1 e2
    go_wp2_with fail
    refine Calls.mono (by with_reducible exact HRX.out _ hB1) ?_;rintro e w2 ⟨v2,rfl,hown2,hb2⟩;obtain⟨B2,n2,b2,rfl⟩:=own_slice hown2;have HB2:=Lib.hid (below_trans hB1 hb2);have HSR:=Lib.hid ((Sl.of_own hown2).below (below_alloc w2 (.cells #[.int .i64 1,.slice B2 n2 b2] 48)));have HGE:=Lib.hid (own_ge hown2);have HLT:=Lib.hid (own_lt hown2);have HO2:=Lib.hid (HO1.below hb2);have HO3:=Lib.hid (HO2.out.alloc (.cells #[.int .i64 1,.slice B2 n2 b2] 48));have HB3:=Lib.hid (HB2.out.alloc HB2.out.size (.cells #[.int .i64 1,.slice B2 n2 b2] 48));have HK3:=Lib.hid ((HK1.out.below hb2).alloc (.cells #[.int .i64 1,.slice B2 n2 b2] 48));have HSZ:Hid (w.heap.size+1≤w2.heap.size):=Lib.hid (by have h1:=hb2.size;have h2:=hbr.size;simp at h1;omega);have HOL:=Lib.hid (own_lt HO.out.own);have HOG:=Lib.hid (own_ge HO.out.own);have HCH:=Lib.hid (one_chn w2 ⟨.slice B2 n2 b2,rowG p x.gp,1⟩);clear hown2 hb2 HO1 hB1 d0 d1 d2 k0 k1 k2 k3 k4 k5 k6 k7 k8 k9 k10 k11 k12
    go_wp2_with (at_builtin;refine wpList_app rfl (.tmp 25) (.tmp 30) 42 rfl (w.heap.size+1) 48 2 32 Tryz.underlying42 chgI u7 m.length _ rfl HO3.out.own _ 1 (Chn.cells ⟨.slice B2 n2 b2,rowG p x.gp,1⟩) rfl HCH.out rfl (chn_one HSR.out) ?_ ?_ ?_ ?_)
    ·unfold maxLen;have:=HMK.out;have:=HLE.out;simp only[gps_len]at this;omega
    ·have:=HMK.out;have:=HLE.out;simp only[gps_len]at this;omega
    ·have h1:=HB3.out.size;have h2:=HSZ.out;have h3:=HB2.out.size;simp at h1 h3⊢;omega
    ·intro v3 w3 hown3 hg3 hat3
     have hb3:=below_grown HB3.out hg3 (fun j hj=>by have:=HOG.out j hj;omega);have H3:=Lib.hid (HO3.out.snoc (c:=⟨.slice B2 n2 b2,rowG p x.gp,1⟩) hown3 hg3 (by simpa using hat3) HSR.out (fun j hj=>⟨by have h1:=HGE.out j hj;have h2:=hbr.size;simp at h1;omega,by have:=HLT.out j hj;simp;omega,fun e=>by have h1:=HGE.out j hj;have h2:=HOL.out j e;simp at h1;omega⟩));have hne:u7.ownBlock≠some w.heap.size:=fun e=>by have:=HOG.out _ e;omega
     have HK4:=Lib.hid (HK3.out.grown hg3 hne)
     have HA3:Hid (ac (m++[⟨.slice B2 n2 b2,rowG p x.gp,1⟩])=insG p ((gps G).take (k+1))):=Lib.hid (by
      unfold insG ac at HA⊢;rw[HST.out,List.map_append,HA.out];rfl)
     clear hown3 hg3 hat3 hne;go_wp2;go_roundw
     case rel=>exact⟨k+1,_,by omega,by go_num,by have:=HMK.out;simp;omega,H3,HA3,HK4,hb3⟩
     case measure=>simp[intOf];omega
   ·obtain rfl:k=G.length:=by omega
    have HC:=Lib.hid HO.out.chs;obtain⟨Am,nm,cm,hvm⟩:=own_slice HO.out.own;obtain⟨HFC,HFS⟩:=HIN2.out m (by rw[HA.out,List.take_of_length_le (by rw[gps_len];exact Nat.le_refl _)]);have hcf:=cfold_any _ _ [] m wr (View.nil wr) ⟨nofun,nofun⟩ HC.out HFC (HM.out.below hbr);rw[HFS]at hcf;have HCF:=Lib.hid hcf;clear hcf HFS HFC hvm HO HA
    go_wp2_with fail
    refine Calls.mono (by with_reducible exact HCF.out) ?_;rintro e w2 ⟨v2,l2,rfl,hV2,ha2,hb2⟩;have HV2:=Lib.hid hV2;have HA2:=Lib.hid ha2;have hb3:=below_trans hbr hb2;clear hV2 ha2 hb2;go_wp2
    go_ret2
    exact⟨v2,l2,by rw[HCZ.out];rfl,HV2.out,by rw[HA2.out,EV.out],hb3⟩
 ·have q0:=bneT hz
  have EV:=Lib.hid (HVS.out.trans (if_neg hz));clear hz HVS;go_wp2
  go_ret2
  exact⟨_,[],rfl,⟨Sl.nil_ _,nofun⟩,by rw[EV.out];rfl,hbw1⟩
end Go.Proofs.YtjhbeecmdgglgaaGreatDoor
