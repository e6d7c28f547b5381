/-Groups: View. Groups: cells, and the reference's groupOf. Small words for insertions: builtins by their run, slices kept. slices.Insert of one tally ( -/
import Derived.Test.YtblhidmkalleoaaGreatDoorGrpT18
import Derived.Test.YtblhidmkalleoaaGreatDoorGrpT10
import Derived.Test.YtblhidmkalleoaaGreatDoorGrpT4
import Derived.Lib.AppendZerosOnto
import Derived.Lib.Overlaps
import Derived.WalkSmall
set_option linter.unusedSimpArgs false
set_option linter.unusedVariables false
namespace Go.Proofs.YtblhidmkalleoaaGreatDoor
open Go.RowKit
def viewS (p:Pl) (G:List Gp):AV:=if checkG p G=0 then viewG p G else[]
theorem gm_fit_len {x:Gm}{p:Pl}(h:GoodG1 p x.gp):x.bags.length=p.aggs.length∧x.r.length≤8∧ ∀q∈x.bags,q.2.length≤1099511627776:=by
 have h1:=h.bl;unfold Gm.gp at h1;simp only[List.length_map]at h1;refine⟨h1,h.row.few,fun q hq=> ?_⟩;obtain⟨i,hi,rfl⟩:=List.mem_iff_getElem.1 hq;have h2:(p.aggs.zip x.gp.bags)[i]?=some (p.aggs[i]'(by omega),(x.bags[i]).2):=zip_at (List.getElem?_eq_getElem _) (by unfold Gm.gp;simp[hi]);have hn:=h.num;rcases h.bags _ (List.mem_of_getElem? h2)with⟨-,e⟩|⟨-,hg,hs⟩
 ·have e:(x.bags[i]).2=[]:=e
  rw[e];simp
 ·have:=sumT_len hg.vals
  have hs:sumT (x.bags[i]).2=x.gp.n:=hs;have hg:((x.bags[i]).2.length:Int)≤sumT (x.bags[i]).2:=this;omega
theorem gps_mem {G:List Gm}{x:Gm}(h:x∈G):x.gp∈gps G:=List.mem_map.2 ⟨x,h,rfl⟩
set_option maxHeartbeats 8000000 in
set_option maxRecDepth 10000 in
theorem gview_any (p:Pl)(v:Value)(G:List Gm)(w:World)(h:p.ok w)(hf:p.fit)(hG:Gms w v G)(hGf: ∀x∈G,x.fit)(hm:Mx w):
 Calls Tryz.prog 15 #[.agg #[.int .i64 p.kind,.int .i64 p.mode,.int .i64 p.low,.int .i64 p.high,.int .i64 p.size,.int .i64 p.limit,p.vl,p.vr,p.vk,p.vq,.bool p.grouped,p.vg,p.va],v] w fun e w'=> ∃v' l',e= .returned (.tuple #[v',.int .i64 (checkG p (gps G))])∧View w' v' l'∧av l'=viewS p (gps G)∧Below w.heap.size w w':=by
 have HGS:=Lib.hid hG;have HCK:=Lib.hid (fun W (hb:Below w.heap.size w W)=>gcheck_any p v G W (h.below hb) hf (hG.below hb) hGf (hm.below hb));have HGD:=Lib.hid (fun(hz:checkG p (gps G)=0)=>(check_zeroG (p:=p) (G:=gps G) (fun g hg=>by obtain⟨x,hx,rfl⟩:=List.mem_map.1 hg;exact(hGf x hx).fine)).1 hz);have HRW:=Lib.hid (fun W (hb:Below w.heap.size w W) (hz:checkG p (gps G)=0) (x:Gm) (hx:x∈G)=>let z:=HGD.out hz;let y:=gm_fit_len (z.2.2.each x.gp (gps_mem hx));grow_any p x W (h.below hb).a ((hG.each x hx).below hb) y.1 y.2.1 (group_few z.1 z.2.1).2.2 y.2.2);have HM:=Lib.hid hm;unfold Gm.agg at HRW;have HVS:Hid (viewS p (gps G)=if checkG p (gps G)=0 then viewG p (gps G)else[]):=Lib.hid rfl
 have HIN:Hid (∀(m:List Chn) (hz:checkG p (gps G)=0),ac m=insG p (gps G)→FineC m∧foldS [] m=(viewG p (gps G),0,0)):=Lib.hid (fun m hz hm=>by
  obtain⟨z1,z2,z3⟩:=HGD.out hz
  have hin: ∀c∈m,c.k=1∧GoodR c.r:=fun c hc=>by
   have h1:(c.k,c.r)∈ac m:=List.mem_map.2 ⟨c,hc,rfl⟩;rw[hm]at h1;obtain⟨g,hg,e⟩:=List.mem_map.1 h1;injection e with e1 e2;exact⟨e1.symm,by rw[←e2];exact row_good z1 z2 (z3.each g hg)⟩
  have hlen:m.length≤4096:=by
   have h1:=congrArg List.length hm;unfold ac insG at h1;rw[List.length_map,List.length_map]at h1;rw[h1];exact z3.few
  refine⟨⟨fun c hc=>fine_good (hin c hc).2,fun c hc=>by rw[(hin c hc).1];omega⟩,?_⟩;unfold foldS;rw[show chkV []=0 from rfl,if_neg (by omega),err_ins (fun c hc=>(hin c hc).1) (fun c hc=>(hin c hc).2) hlen,if_neg (by omega),hm];have e:=fold_ins (l:=insG p (gps G)) (A:=[]) (m:=0) (i:=0) (fun c hc=>by obtain⟨g,-,rfl⟩:=List.mem_map.1 hc;rfl) nofun (Nat.le_refl _) (by rw[←hm];unfold ac;rw[List.length_map];omega);exact Prod.ext rfl e)
 have HLN:=Lib.hid (fun hz=>(HGD.out hz).2.2.few);obtain⟨A0,c0,h0,-⟩:=h.l;obtain⟨A1,c1,h1,-⟩:=h.r;obtain⟨A2,c2,h2,-⟩:=h.k;obtain⟨A3,c3,h3,-⟩:=h.q;obtain⟨A4,c4,h4,-⟩:=h.g;obtain⟨A5,c5,h5,-⟩:=h.a;rw[h0,h1,h2,h3,h4,h5]at HCK HRW⊢;clear h hf hG hGf hm h0 h1 h2 h3 h4 h5 HGD;generalize viewS p (gps G)=VS at HVS⊢;generalize checkG p (gps G)=CK at HCK HRW HVS HIN HLN⊢;obtain⟨Av,cv,rfl,nv,mv,-⟩:=id HGS.out.sl;unfold maxLen at mv;have hB:=below_alloc w (.cells #[.int .i64 p.kind,.int .i64 p.mode,.int .i64 p.low,.int .i64 p.high,.int .i64 p.size,.int .i64 p.limit,.slice A0 p.left.length c0,.slice A1 p.right.length c1,.slice A2 p.lkeys.length c2,.slice A3 p.rkeys.length c3,.bool p.grouped,.slice A4 p.group.length c4,.slice A5 p.aggs.length c5] 25);have K0:=Blk.new w 25 #[.int .i64 p.kind,.int .i64 p.mode,.int .i64 p.low,.int .i64 p.high,.int .i64 p.size,.int .i64 p.limit,.slice A0 p.left.length c0,.slice A1 p.right.length c1,.slice A2 p.lkeys.length c2,.slice A3 p.rkeys.length c3,.bool p.grouped,.slice A4 p.group.length c4,.slice A5 p.aggs.length c5];go_enter Tryz.func15,Tryz.ntmps15
 go_wp2_with fail
 refine Calls.mono (by with_reducible exact HCK.out _ hB) ?_;rintro e w1 ⟨rfl,hb1⟩;have hbw1:=below_trans hB hb1;have K1:=Lib.hid (K0.below hb1);clear K0 hb1 HCK hB;by_cases hz:CK=0
 ·have q0:=bneF hz
  have EV:=Lib.hid (HVS.out.trans (if_pos hz));have HLE:=Lib.hid (HLN.out hz);have HIN2:=Lib.hid (fun m=>HIN.out m hz);have HRW2:=Lib.hid (fun W hb x hx=>HRW.out W hb hz x hx);have HCZ:=Lib.hid hz;clear hz HVS HLN HIN HRW
  go_wp2_with fail
  go_loopw[7,9,21] (fun ov _ i wr=> ∃(k:Nat) (m:List Chn),k≤G.length∧i= .int .i64 k∧m.length=k∧Hid (OwnC wr (w.heap.size+1) ov m)∧Hid (ac m=insG p ((gps G).take k))∧Hid (Blk wr w.heap.size 25 #[.int .i64 p.kind,.int .i64 p.mode,.int .i64 p.low,.int .i64 p.high,.int .i64 p.size,.int .i64 p.limit,.slice A0 p.left.length c0,.slice A1 p.right.length c1,.slice A2 p.lkeys.length c2,.slice A3 p.rkeys.length c3,.bool p.grouped,.slice A4 p.group.length c4,.slice A5 p.aggs.length c5])∧Below w.heap.size w wr) (fun _ _ i _=>G.length-(intOf i).toNat)
  case atStart=>exact⟨0,[],by omega,rfl,rfl,Lib.hid (OwnC.nil _ _),Lib.hid rfl,K1,hbw1⟩
  case round=>
   clear K1 hbw1;obtain⟨k,m,hk,rfl,hmk,HO,HA,HK,hbr⟩:=hrel;have HMK:=Lib.hid hmk;clear hmk;by_cases hlt:k<G.length
   ·have hx:=List.getElem?_eq_getElem (l:=G) hlt
    generalize G[k]=x at hx;obtain⟨bb,ob,rfl,-,hcb⟩:=gm_at HGS.out.sl rfl hx;have hxm:=List.mem_of_getElem? hx;obtain⟨d0,d1,d2⟩:=hcb _ hbr;obtain⟨Ax,cx,e1,-⟩:=id (HGS.out.each x hxm).row;obtain⟨Ay,cy,e2,-⟩:=id (HGS.out.each x hxm).sl;have HRX:=Lib.hid (fun W hb=>HRW2.out W hb x hxm);have HST:=Lib.hid (map_step (f:=fun g=>((1:Int),rowG p g)) (gps_at hx));rw[e1,e2]at HRX;rw[e1]at d0;rw[e2]at d2;have KP:=HK.out.alloc (.cells #[.slice Ax x.r.length cx,.int .i64 x.n,.slice Ay x.bags.length cy] 97);have k0:=KP.cell 0 _ rfl;have k1:=KP.cell 1 _ rfl;have k2:=KP.cell 2 _ rfl;have k3:=KP.cell 3 _ rfl;have k4:=KP.cell 4 _ rfl;have k5:=KP.cell 5 _ rfl;have k6:=KP.cell 6 _ rfl;have k7:=KP.cell 7 _ rfl;have k8:=KP.cell 8 _ rfl;have k9:=KP.cell 9 _ rfl;have k10:=KP.cell 10 _ rfl;have k11:=KP.cell 11 _ rfl;have k12:=KP.cell 12 _ rfl;have hB1:=hbr.alloc hbr.size (.cells #[.slice Ax x.r.length cx,.int .i64 x.n,.slice Ay x.bags.length cy] 97);have HO1:=HO.out.alloc (.cells #[.slice Ax x.r.length cx,.int .i64 x.n,.slice Ay x.bags.length cy] 97);have HK1:=Lib.hid (HK.out.alloc (.cells #[.slice Ax x.r.length cx,.int .i64 x.n,.slice Ay x.bags.length cy] 97));clear HK KP hx hcb e1 e2
    go_wp2_with fail
    refine Calls.mono (by with_reducible exact HRX.out _ hB1) ?_;rintro e w2 ⟨v2,rfl,hown2,hb2⟩;obtain⟨B2,n2,b2,rfl⟩:=own_slice hown2;have HB2:=Lib.hid (below_trans hB1 hb2);have HSR:=Lib.hid ((Sl.of_own hown2).below (below_alloc w2 (.cells #[.int .i64 1,.slice B2 n2 b2] 73)));have HGE:=Lib.hid (own_ge hown2);have HLT:=Lib.hid (own_lt hown2);have HO2:=Lib.hid (HO1.below hb2);have HO3:=Lib.hid (HO2.out.alloc (.cells #[.int .i64 1,.slice B2 n2 b2] 73));have HB3:=Lib.hid (HB2.out.alloc HB2.out.size (.cells #[.int .i64 1,.slice B2 n2 b2] 73));have HK3:=Lib.hid ((HK1.out.below hb2).alloc (.cells #[.int .i64 1,.slice B2 n2 b2] 73));have HSZ:Hid (w.heap.size+1≤w2.heap.size):=Lib.hid (by have h1:=hb2.size;have h2:=hbr.size;simp at h1;omega);have HOL:=Lib.hid (own_lt HO.out.own);have HOG:=Lib.hid (own_ge HO.out.own);have HCH:=Lib.hid (one_chn w2 ⟨.slice B2 n2 b2,rowG p x.gp,1⟩);clear hown2 hb2 HO1 hB1 d0 d1 d2 k0 k1 k2 k3 k4 k5 k6 k7 k8 k9 k10 k11 k12
    go_wp2_with (at_builtin;refine wpList_app rfl (.tmp 25) (.tmp 30) 36 rfl (w.heap.size+1) 73 2 32 Tryz.underlying36 chgI u7 m.length _ rfl HO3.out.own _ 1 (Chn.cells ⟨.slice B2 n2 b2,rowG p x.gp,1⟩) rfl HCH.out rfl (chn_one HSR.out) ?_ ?_ ?_ ?_)
    ·unfold maxLen;have:=HMK.out;have:=HLE.out;simp only[gps_len]at this;omega
    ·have:=HMK.out;have:=HLE.out;simp only[gps_len]at this;omega
    ·have h1:=HB3.out.size;have h2:=HSZ.out;have h3:=HB2.out.size;simp at h1 h3⊢;omega
    ·intro v3 w3 hown3 hg3 hat3
     have hb3:=below_grown HB3.out hg3 (fun j hj=>by have:=HOG.out j hj;omega);have H3:=Lib.hid (HO3.out.snoc (c:=⟨.slice B2 n2 b2,rowG p x.gp,1⟩) hown3 hg3 (by simpa using hat3) HSR.out (fun j hj=>⟨by have h1:=HGE.out j hj;have h2:=hbr.size;simp at h1;omega,by have:=HLT.out j hj;simp;omega,fun e=>by have h1:=HGE.out j hj;have h2:=HOL.out j e;simp at h1;omega⟩));have hne:u7.ownBlock≠some w.heap.size:=fun e=>by have:=HOG.out _ e;omega
     have HK4:=Lib.hid (HK3.out.grown hg3 hne)
     have HA3:Hid (ac (m++[⟨.slice B2 n2 b2,rowG p x.gp,1⟩])=insG p ((gps G).take (k+1))):=Lib.hid (by
      unfold insG ac at HA⊢;rw[HST.out,List.map_append,HA.out];rfl)
     clear hown3 hg3 hat3 hne;go_wp2;go_roundw
     case rel=>exact⟨k+1,_,by omega,by go_num,by have:=HMK.out;simp;omega,H3,HA3,HK4,hb3⟩
     case measure=>simp[intOf];omega
   ·obtain rfl:k=G.length:=by omega
    have HC:=Lib.hid HO.out.chs;obtain⟨Am,nm,cm,hvm⟩:=own_slice HO.out.own;obtain⟨HFC,HFS⟩:=HIN2.out m (by rw[HA.out,List.take_of_length_le (by rw[gps_len];exact Nat.le_refl _)]);have hcf:=cfold_any _ _ [] m wr (View.nil wr) ⟨nofun,nofun⟩ HC.out HFC (HM.out.below hbr);rw[HFS]at hcf;have HCF:=Lib.hid hcf;clear hcf HFS HFC hvm HO HA
    go_wp2_with fail
    refine Calls.mono (by with_reducible exact HCF.out) ?_;rintro e w2 ⟨v2,l2,rfl,hV2,ha2,hb2⟩;have HV2:=Lib.hid hV2;have HA2:=Lib.hid ha2;have hb3:=below_trans hbr hb2;clear hV2 ha2 hb2;go_wp2
    go_ret2
    exact⟨v2,l2,by rw[HCZ.out];rfl,HV2.out,by rw[HA2.out,EV.out],hb3⟩
 ·have q0:=bneT hz
  have EV:=Lib.hid (HVS.out.trans (if_neg hz));clear hz HVS;go_wp2
  go_ret2
  exact⟨_,[],rfl,⟨Sl.nil_ _,nofun⟩,by rw[EV.out];rfl,hbw1⟩
end Go.Proofs.YtblhidmkalleoaaGreatDoor
namespace Go.Proofs.YtblhidmkalleoaaGreatDoor
open Go.RowKit
def cellsL (l:List Int) (r:List Val):List Val:=l.map fun c=>r.getD c.toNat nullG
set_option maxHeartbeats 4000000 in
set_option maxRecDepth 10000 in
theorem cells_any (p:Pl)(vr:Value)(r:List Val)(w:World)(hg:Sl w p.vg p.group.length (intCells p.group))(hr:Sl w vr r.length (rowCells r))(hx: ∀c∈p.group,0≤c∧c<(r.length:Nat))(h8:p.group.length≤8):
 Calls Tryz.prog 141 #[.agg #[.int .i64 p.kind,.int .i64 p.mode,.int .i64 p.low,.int .i64 p.high,.int .i64 p.size,.int .i64 p.limit,p.vl,p.vr,p.vk,p.vq,.bool p.grouped,p.vg,p.va],vr] w fun e w'=> ∃v',e= .returned v'∧w'.ownsRow (w.heap.size+1) 112 3 v' (cellsG p r).length (rowCells (cellsG p r))∧Below w.heap.size w w':=by
 have HG:=Lib.hid hg;have HR:=Lib.hid hr;have HX:=Lib.hid hx;obtain⟨A4,c4,h4,n4,m4,-⟩:=id hg;obtain⟨Ar,cr,rfl,nr,mr,-⟩:=id hr;unfold maxLen at m4 mr;rw[h4]at HG⊢;have HLC:Hid ((cellsG p r).length=p.group.length):=Lib.hid (by simp[cellsG]);have HCG:Hid (∀_:Nat,cellsG p r=cellsL p.group r):=Lib.hid (fun _=>rfl);have hB:=below_alloc w (.cells #[.int .i64 p.kind,.int .i64 p.mode,.int .i64 p.low,.int .i64 p.high,.int .i64 p.size,.int .i64 p.limit,p.vl,p.vr,p.vk,p.vq,.bool p.grouped,.slice A4 p.group.length c4,p.va] 25);have K0:=Blk.new w 25 #[.int .i64 p.kind,.int .i64 p.mode,.int .i64 p.low,.int .i64 p.high,.int .i64 p.size,.int .i64 p.limit,p.vl,p.vr,p.vk,p.vq,.bool p.grouped,.slice A4 p.group.length c4,p.va];have HK0:=Lib.hid K0;have y11:=K0.cell 11 _ rfl;clear h4 hg hr hx K0;go_enter Tryz.func141,Tryz.ntmps141
 go_wp2_with fail
 go_loopw[5,7,11] (fun ov _ i wr=> ∃k:Nat,k≤p.group.length∧i= .int .i64 k∧Hid (wr.ownsRow (w.heap.size+1) 112 3 ov k (rowCells (cellsL (p.group.take k) r)))∧Hid (Blk wr w.heap.size 25 #[.int .i64 p.kind,.int .i64 p.mode,.int .i64 p.low,.int .i64 p.high,.int .i64 p.size,.int .i64 p.limit,p.vl,p.vr,p.vk,p.vq,.bool p.grouped,.slice A4 p.group.length c4,p.va])∧w.heap.size+1≤wr.heap.size∧Below w.heap.size w wr) (fun _ _ i _=>p.group.length-(intOf i).toNat)
 case atStart=>exact⟨0,by omega,rfl,Lib.hid ⟨rfl,.inl ⟨rfl,rfl⟩⟩,HK0,by simp,hB⟩
 case round=>
  clear y11;obtain⟨k,hk,rfl,HO,HK,hsr,hbr⟩:=hrel;have y11:=HK.out.cell 11 _ rfl;by_cases hlt:k<p.group.length
  ·obtain⟨bg,og,rfl,-,hcg⟩:=int_at HG.out rfl hlt
   have d1:=hcg _ hbr;have gk:p.group[k]?=some (p.group.getD k 0):=by simp[hlt]
   generalize p.group.getD k 0=c at d1 gk;have rx:=HX.out c (List.mem_of_getElem? gk);obtain⟨m,rfl⟩: ∃m:Nat,c=m:=⟨c.toNat,by omega⟩;have hm:m<r.length:=by omega
   have hz:=List.getElem?_eq_getElem (l:=r) hm;generalize r[m]=z at hz;have hst:cellsL (p.group.take (k+1)) r=cellsL (p.group.take k) r++[r.getD ((m:Int)).toNat nullG]:=map_step (f:=fun c:Int=>r.getD c.toNat nullG) gk;have hmn:r.getD ((m:Int)).toNat nullG=z:=by simp[List.getD,hz]
   rw[hmn]at hst;have HST:=Lib.hid hst;clear hst;obtain⟨bz,oz,rfl,-,hcz⟩:=val_at HR.out rfl hz;obtain⟨z0,z1,z2⟩:=hcz _ hbr;obtain⟨zk,zn,zs⟩:=z;simp only at z0 z1 z2 HST;have HO1:=Lib.hid (HO.out.alloc (.cells #[.int .i64 zk,.int .i64 zn,.string zs] 112));have HV1:=Lib.hid (Sl.block (Blk.new wr 112 #[.int .i64 zk,.int .i64 zn,.string zs]) 1 1 (Nat.le_refl _) (by decide));have HB1:=Lib.hid (hbr.alloc hbr.size (.cells #[.int .i64 zk,.int .i64 zn,.string zs] 112));have HGE:=Lib.hid (own_ge HO.out);have HK1:=Lib.hid (HK.out.alloc (.cells #[.int .i64 zk,.int .i64 zn,.string zs] 112));have m0':(0:Int)≤(m:Int):=by omega
   have m1':(m:Int)<(r.length:Int):=by omega
   have HSR:=Lib.hid hsr;clear hz hcz hcg hmn gk rx HK hsr HO
   go_wp2_with (at_builtin;refine wpList_app rfl (.tmp 15) (.tmp 20) 61 rfl (w.heap.size+1) 112 3 32 Tryz.underlying61 valJ _ k _ rfl HO1.out _ 1 [.int .i64 zk,.int .i64 zn,.string zs] rfl HV1.out rfl (by simp[Value.oneCell']) ?_ ?_ ?_ ?_)
   ·unfold maxLen;omega
   ·omega
   ·have:=HSR.out;simp;omega
   ·intro v3 w3 hown3 hg3 hat3
    have hb3:=below_grown HB1.out hg3 (fun j hj=>by have:=HGE.out j hj;omega)
    have H3:Hid (w3.ownsRow (w.heap.size+1) 112 3 v3 (k+1) (rowCells (cellsL (p.group.take (k+1)) r))):=Lib.hid (by
     rw[HST.out,rcApp,rowCells_one1];exact hown3)
    have HK3:=Lib.hid (HK1.out.grown hg3 (fun e=>by have:=HGE.out _ e;omega));have hs3:w.heap.size+1≤w3.heap.size:=by have h1:=hg3.size;have:=HSR.out;simp at h1;omega
    clear hown3 hg3 hat3;go_wp2;go_roundw
    case rel=>exact⟨k+1,by omega,by go_num,H3,HK3,hs3,hb3⟩
    case measure=>simp[intOf];omega
  ·obtain rfl:k=p.group.length:=by omega
   rw[List.take_length,←HCG.out 0]at HO;have HO2:=Lib.hid (show wr.ownsRow (w.heap.size+1) 112 3 u5 (cellsG p r).length (rowCells (cellsG p r))from by rw[HLC.out];exact HO.out);clear HO HK;go_wp2;go_ret;exact⟨_,rfl,HO2.out,hbr⟩
set_option maxHeartbeats 4000000 in
set_option maxRecDepth 10000 in
theorem rgroupOf_any (p:Pl)(vr:Value)(r:List Val)(w:World)(hg:Sl w p.vg p.group.length (intCells p.group))(hr:Sl w vr r.length (rowCells r))(hx: ∀c∈p.group,0≤c∧c<(r.length:Nat))(h8:p.group.length≤8):
 Calls Tryz.prog 147 #[.agg #[.int .i64 p.kind,.int .i64 p.mode,.int .i64 p.low,.int .i64 p.high,.int .i64 p.size,.int .i64 p.limit,p.vl,p.vr,p.vk,p.vq,.bool p.grouped,p.vg,p.va],vr] w fun e w'=> ∃v',e= .returned v'∧w'.ownsRow (w.heap.size+1) 112 3 v' (cellsG p r).length (rowCells (cellsG p r))∧Below w.heap.size w w':=by
 have HG:=Lib.hid hg;have HR:=Lib.hid hr;have HX:=Lib.hid hx;obtain⟨A4,c4,h4,n4,m4,-⟩:=id hg;obtain⟨Ar,cr,rfl,nr,mr,-⟩:=id hr;unfold maxLen at m4 mr;rw[h4]at HG⊢;have HLC:Hid ((cellsG p r).length=p.group.length):=Lib.hid (by simp[cellsG]);have HCG:Hid (∀_:Nat,cellsG p r=cellsL p.group r):=Lib.hid (fun _=>rfl);have hB:=below_alloc w (.cells #[.int .i64 p.kind,.int .i64 p.mode,.int .i64 p.low,.int .i64 p.high,.int .i64 p.size,.int .i64 p.limit,p.vl,p.vr,p.vk,p.vq,.bool p.grouped,.slice A4 p.group.length c4,p.va] 25);have K0:=Blk.new w 25 #[.int .i64 p.kind,.int .i64 p.mode,.int .i64 p.low,.int .i64 p.high,.int .i64 p.size,.int .i64 p.limit,p.vl,p.vr,p.vk,p.vq,.bool p.grouped,.slice A4 p.group.length c4,p.va];have HK0:=Lib.hid K0;have y11:=K0.cell 11 _ rfl;clear h4 hg hr hx K0;go_enter Tryz.func147,Tryz.ntmps147
 go_wp2_with fail
 go_loopw[5,6] (fun ov i wr=> ∃k:Nat,k≤p.group.length∧i= .int .i64 k∧Hid (wr.ownsRow (w.heap.size+1) 112 3 ov k (rowCells (cellsL (p.group.take k) r)))∧Hid (Blk wr w.heap.size 25 #[.int .i64 p.kind,.int .i64 p.mode,.int .i64 p.low,.int .i64 p.high,.int .i64 p.size,.int .i64 p.limit,p.vl,p.vr,p.vk,p.vq,.bool p.grouped,.slice A4 p.group.length c4,p.va])∧w.heap.size+1≤wr.heap.size∧Below w.heap.size w wr) (fun _ i _=>p.group.length-(intOf i).toNat)
 case atStart=>exact⟨0,by omega,rfl,Lib.hid ⟨rfl,.inl ⟨rfl,rfl⟩⟩,HK0,by simp,hB⟩
 case round=>
  clear y11;obtain⟨k,hk,rfl,HO,HK,hsr,hbr⟩:=hrel;have y11:=HK.out.cell 11 _ rfl;by_cases hlt:k<p.group.length
  ·obtain⟨bg,og,rfl,-,hcg⟩:=int_at HG.out rfl hlt
   have d1:=hcg _ hbr;have gk:p.group[k]?=some (p.group.getD k 0):=by simp[hlt]
   generalize p.group.getD k 0=c at d1 gk;have rx:=HX.out c (List.mem_of_getElem? gk);obtain⟨m,rfl⟩: ∃m:Nat,c=m:=⟨c.toNat,by omega⟩;have hm:m<r.length:=by omega
   have hz:=List.getElem?_eq_getElem (l:=r) hm;generalize r[m]=z at hz;have hst:cellsL (p.group.take (k+1)) r=cellsL (p.group.take k) r++[r.getD ((m:Int)).toNat nullG]:=map_step (f:=fun c:Int=>r.getD c.toNat nullG) gk;have hmn:r.getD ((m:Int)).toNat nullG=z:=by simp[List.getD,hz]
   rw[hmn]at hst;have HST:=Lib.hid hst;clear hst;obtain⟨bz,oz,rfl,-,hcz⟩:=val_at HR.out rfl hz;obtain⟨z0,z1,z2⟩:=hcz _ hbr;obtain⟨zk,zn,zs⟩:=z;simp only at z0 z1 z2 HST;have HO1:=Lib.hid (HO.out.alloc (.cells #[.int .i64 zk,.int .i64 zn,.string zs] 112));have HV1:=Lib.hid (Sl.block (Blk.new wr 112 #[.int .i64 zk,.int .i64 zn,.string zs]) 1 1 (Nat.le_refl _) (by decide));have HB1:=Lib.hid (hbr.alloc hbr.size (.cells #[.int .i64 zk,.int .i64 zn,.string zs] 112));have HGE:=Lib.hid (own_ge HO.out);have HK1:=Lib.hid (HK.out.alloc (.cells #[.int .i64 zk,.int .i64 zn,.string zs] 112));have m0':(0:Int)≤(m:Int):=by omega
   have m1':(m:Int)<(r.length:Int):=by omega
   have HSR:=Lib.hid hsr;clear hz hcz hcg hmn gk rx HK hsr HO
   go_wp2_with (at_builtin;refine wpList_app rfl (.tmp 14) (.tmp 23) 61 rfl (w.heap.size+1) 112 3 32 Tryz.underlying61 valJ _ k _ rfl HO1.out _ 1 [.int .i64 zk,.int .i64 zn,.string zs] rfl HV1.out rfl (by simp[Value.oneCell']) ?_ ?_ ?_ ?_)
   ·unfold maxLen;omega
   ·omega
   ·have:=HSR.out;simp;omega
   ·intro v3 w3 hown3 hg3 hat3
    have hb3:=below_grown HB1.out hg3 (fun j hj=>by have:=HGE.out j hj;omega)
    have H3:Hid (w3.ownsRow (w.heap.size+1) 112 3 v3 (k+1) (rowCells (cellsL (p.group.take (k+1)) r))):=Lib.hid (by
     rw[HST.out,rcApp,rowCells_one1];exact hown3)
    have HK3:=Lib.hid (HK1.out.grown hg3 (fun e=>by have:=HGE.out _ e;omega));have hs3:w.heap.size+1≤w3.heap.size:=by have h1:=hg3.size;have:=HSR.out;simp at h1;omega
    clear hown3 hg3 hat3;go_wp2;go_roundw
    case rel=>exact⟨k+1,by omega,by go_num,H3,HK3,hs3,hb3⟩
    case measure=>simp[intOf];omega
  ·obtain rfl:k=p.group.length:=by omega
   rw[List.take_length,←HCG.out 0]at HO;have HO2:=Lib.hid (show wr.ownsRow (w.heap.size+1) 112 3 u5 (cellsG p r).length (rowCells (cellsG p r))from by rw[HLC.out];exact HO.out);clear HO HK;go_wp2;go_ret;exact⟨_,rfl,HO2.out,hbr⟩
end Go.Proofs.YtblhidmkalleoaaGreatDoor
namespace Go.Proofs.YtblhidmkalleoaaGreatDoor
open Go.RowKit
theorem wpList_append_run {P:Program}{w w':World}{ops:Array Oper}{rest:List Oper}{o:Oper}{a:Act}{Q:Exit→Act→World→Prop}{v':Value}(hgd:o.guard=none)(s x:Operand)(t tn:TypeId)
 (ho:o.op= .call {callee:= .builtin .append,args:= #[s,x],argTypes:= #[t,tn]}) (sv xv:Value) (hs:a.eval s=sv) (hx:a.eval x=xv)
 (hrun:(Builtin.append_ #[t,tn] o.type #[sv,xv]).run P w= .ok v' w') (h:wpList P ops Q rest (a.put o.dst v') w'):wpList P ops Q (o::rest) a w:=
 wpList_plain hgd fun _ hK=>by
  unfold Oper.wp execOp;simp only[ho,resolve,invoke,builtin,Sem.run_bind,Sem.run_pure,Result.andThen_ok,List.map_toArray,List.map_cons,List.map_nil,hs,hx,hrun];exact hK _ _ h
theorem Sl.grown_ {w w':World}{v:Value}{n:Nat}{cs:List Value}{row:Option Nat}(h:Sl w v n cs)(hg:w.grownBy w' row)(hr: ∀k,v.ownBlock=some k→row≠some k):Sl w' v n cs:=sl_grown h hg hr
theorem Sl.drew_ {w:World}{v:Value}{n:Nat}{cs:List Value}(h:Sl w v n cs):Sl w.drew v n cs:=h
theorem own_drew {w:World}{base:Nat}{e:TypeId}{size:Nat}{v:Value}{n:Nat}{xs:List Value}(h:w.ownsRow base e size v n xs):w.drew.ownsRow base e size v n xs:=h
theorem grown_none {w w':World}(h:w.grownBy w' none)(row:Option Nat):w.grownBy w' row:=⟨h.os,h.tape,h.output,h.size,fun k hk _=>h.block k hk (by simp)⟩
theorem sl_cells {w:World}{g n c:Nat}{cs:List Value}(h:Sl w (.slice (some ⟨g,0,none⟩) n c) n cs): ∀j v,cs[j]?=some v→w.cell? ((⟨g,0,none⟩:Addr).add j)=some v:=by
 intro j v hj;obtain⟨X,c',hv,-,-,-,h3⟩:=h;injection hv with e1 e2 e3;obtain⟨b,off,hX,hc⟩:=h3 (by rintro rfl;simp at hj);rw[hX]at e1;injection e1 with e1;injection e1 with e1 e2;subst e1 e2;have:=hc j v hj;unfold Addr.add;split
 ·rename_i h0;subst h0;exact this
 ·exact this
theorem own_block {w:World}{base g n cap size:Nat}{e:TypeId}{xs:List Value}(h:w.ownsRow base e size (.slice (some ⟨g,0,none⟩) n cap) n xs): ∃cur:Array Value,w.heap[g]?=some (.cells cur e (0,0))∧cur.size=cap*size:=by
 rcases h.2 with⟨h',-⟩|⟨g',cap',cur,h',hb,hg,hn,hc,hsz,ht⟩
 ·cases h'
 ·injection h' with e1 e2 e3
  injection e1 with e1;injection e1 with e1;subst e1 e3;exact⟨cur,hg,hsz⟩
theorem shape_blk' {w:World}{g:Nat}{cs:Array Value}{t:TypeId}(h:w.heap[g]?=some (.cells cs t (0,0))):w.shape? g=some (t,cs.size):=by simp[World.shape?,h]
theorem shape_blk {w:World}{g:Nat}{cs:Array Value}{t:TypeId}(h:Blk w g t cs):w.shape? g=some (t,cs.size):=shape_blk' h
end Go.Proofs.YtblhidmkalleoaaGreatDoor
namespace Go.Proofs.YtblhidmkalleoaaGreatDoor
open Go.RowKit
structure OwnT (w:World) (base:Nat) (v:Value) (l:List Tl):Prop where
 own:w.ownsRow base 135 4 v l.length (tlCells l)
theorem OwnT.snoc {w w':World}{base:Nat}{v v':Value}{l:List Tl}{c:Tl}(h:OwnT w base v l)(hown:w'.ownsRow base 135 4 v' (l.length+1) (tlCells l++c.cells))(hg:w.grownBy w' v.ownBlock)(hat:v'.ownBlock=v.ownBlock∨v'.ownBlock=some w.heap.size)
 (hc:True) (hf:True):OwnT w' base v' (l++[c]):=⟨by rw[tlCells_app,List.length_append];simpa[tlCells]using hown⟩
theorem OwnT.laid {w w':World}{base i:Nat}{v v':Value}{l:List Tl}{c:Tl}(h:OwnT w base v l)(hi:i≤l.length)(hown:w'.ownsRow base 135 4 v' (l.length+1) (tlCells (l.take i)++(c.cells++tlCells (l.drop i))))(hg:w.grownBy w' v.ownBlock)(hat:v'.ownBlock=v.ownBlock∨ ∀k,v'.ownBlock=some k→w.heap.size≤k)
 (hc:True) (hf:True):OwnT w' base v' (l.take i++c::l.drop i):=⟨by
 rw[show(l.take i++c::l.drop i).length=l.length+1 by simp;omega,tlCells_app,show tlCells (c::l.drop i)=c.cells++tlCells (l.drop i)from rfl];exact hown⟩
theorem tlSize:(Tryz.prog.info? 135).map (·.size)=some 4:=by kernel_rfl
theorem tl_take (l:List Tl)(k:Nat):(tlCells l).take (k*4)=tlCells (l.take k):=flat_take Tl.cells_len l k
theorem tl_drop (l:List Tl)(k:Nat):(tlCells l).drop (k*4)=tlCells (l.drop k):=flat_drop Tl.cells_len l k
theorem own_copyT {w:World}{base g m cap o k dl sl c1 c2:Nat}{xs cs:List Value}{a:Addr}(h:w.ownsRow base 135 4 (.slice (some ⟨g,0,none⟩) m cap) m xs)(hok:o+k≤m)(hmin:Nat.min sl dl=k)(hcs:cs.length=k*4)
 (hsrc: ∀j v,cs[j]?=some v→w.cell? (a.add j)=some v) (h1: ∀v∈cs,v.oneCell'=true):
 ∃w',(∀ty,(Builtin.copy_ #[107,107] ty #[.slice (some ⟨g,o*4,none⟩) dl c1,.slice (some a) sl c2]).run Tryz.prog w= .ok (goInt (k:Nat)) w')∧
  w'.ownsRow base 135 4 (.slice (some ⟨g,0,none⟩) m cap) m (xs.take (o*4)++cs++xs.drop ((o+k)*4))∧w.grownBy w' (some g):=by
 have hx:=h.1;rcases h.2 with⟨h',-⟩|⟨g',cap',cur,h',hb,hg,hn,hc,hsz,ht⟩
 ·cases h'
 ·injection h' with e1 e2 e3
  injection e1 with e1;injection e1 with e1;subst e1 e3;have hcur:m*4≤cur.size:=by rw[hsz];exact Nat.mul_le_mul_right _ hn
  have hrun:=fun ty=>run_copy_wide (P:=Tryz.prog) w 107 107 ty 135 g (o*4) dl c1 a sl c2 4 cur 135 cs Tryz.underlying107 tlSize hg (by rw[hcs,hmin]) hsrc (by rw[hcs];omega) h1;simp only[hmin]at hrun;have hcl:(cur.toList).length=cap*4:=by rw[Array.length_toList,hsz]
  refine⟨_,hrun,⟨?_,.inr ⟨g,cap,_,rfl,hb,setRow_heap w g cur _ 135 _ hg,hn,hc,?_,?_⟩⟩,⟨rfl,rfl,rfl,by simp[World.setRow],fun k hk hne=>setRow_other w g k _ (fun e=>hne (by rw[e]))⟩⟩
  ·rw[List.length_append,List.length_append,List.length_take,List.length_drop,hcs,hx];omega
  ·simp only[List.size_toArray,List.length_append,List.length_take,List.length_drop,hcl,hcs];omega
  ·have e1:cur.toList.take (o*4)=xs.take (o*4):=by rw[←ht,List.take_take,Nat.min_eq_left (by omega)]
   have e2:(cur.toList.drop (o*4+cs.length)).take (m*4-(o+k)*4)=xs.drop ((o+k)*4):=by
    rw[←ht,List.drop_take,hcs]
    congr 2
    omega
   have l1:(xs.take (o*4)++cs).length=(o+k)*4:=by rw[List.length_append,List.length_take,hcs,hx];omega
   show(cur.toList.take (o*4)++cs++cur.toList.drop (o*4+cs.length)).take (m*4)=_;rw[e1,List.take_append,l1,e2,List.take_of_length_le (by rw[l1];omega)]
theorem own_moreT {w:World}{base g n cap:Nat}{xs:List Value}(h:w.ownsRow base 135 4 (.slice (some ⟨g,0,none⟩) n cap) n xs)(hr:n+1≤cap): ∃ys,ys.length=4∧w.ownsRow base 135 4 (.slice (some ⟨g,0,none⟩) (n+1) cap) (n+1) (xs++ys):=by
 have hx:=h.1;rcases h.2 with⟨h',-⟩|⟨g',cap',cur,h',hb,hg,hn,hc,hsz,ht⟩
 ·cases h'
 ·injection h' with e1 e2 e3
  injection e1 with e1;injection e1 with e1;subst e1 e3;have hcl:(cur.toList).length=cap*4:=by rw[Array.length_toList,hsz]
  refine⟨(cur.toList.drop (n*4)).take 4,by rw[List.length_take,List.length_drop,hcl];omega,⟨by rw[List.length_append,List.length_take,List.length_drop,hcl,hx];omega,.inr ⟨g,cap,cur,rfl,hb,hg,hr,hc,hsz,?_⟩⟩⟩;rw[show(n+1)*4=n*4+4 by omega,List.take_add,ht]
theorem own_cellsT {w:World}{base g n cap i:Nat}{l:List Tl}(h:w.ownsRow base 135 4 (.slice (some ⟨g,0,none⟩) n cap) n (tlCells l)): ∀j v,(tlCells (l.drop i))[j]?=some v→w.cell? ((⟨g,i*4,none⟩:Addr).add j)=some v:=by
 intro j v hj;rw[←tl_drop,List.getElem?_drop]at hj;have:=h.cellAt (i*4+j) (by have:=(List.getElem?_eq_some_iff.1 hj).1;have h2:=h.1;omega);rw[hj]at this;unfold Addr.add;split
 ·rename_i h0;subst h0;simpa using this
 ·exact this
theorem grow_zerosT {w:World}{base g cap n i:Nat}{l:List Tl}(h:w.ownsRow base 135 4 (.slice (some ⟨g,0,none⟩) n cap) n (tlCells l))(hn:n=l.length)(hi:i<n)(hroom:cap<n+1)(hl:n≤1099511627776)(hbase:base≤w.heap.size):
 ∃G ys W',(∀ty,(Builtin.append_ #[107,3] ty #[.slice (some ⟨g,0,none⟩) i cap,.int .i64 ((n:Int)+1-(i:Int))]).run Tryz.prog w= .ok (.slice (some ⟨w.heap.size,0,none⟩) (n+1) G) W')∧ys.length=(n+1-i)*4∧
  W'.ownsRow base 135 4 (.slice (some ⟨w.heap.size,0,none⟩) (n+1) G) (n+1) (tlCells (l.take i)++ys)∧w.grownBy W' none∧n+1≤G∧G≤maxLen:=by
 obtain⟨i0,z0,hi0,hz0,hzs,hzb,hz5,-⟩:=tlI
 have hold:(Builtin.firstCells i0.size i (.slice (some ⟨g,0,none⟩) i cap)).run Tryz.prog w.drew= .ok (tlCells (l.take i)).toArray w.drew:=by
  rw[hzs];refine run_firstCells_some w.drew 4 i ⟨g,0,none⟩ i cap (tlCells (l.take i)) (by rw[tlCells_len,List.length_take];omega) fun j v hj=> ?_;rw[←tl_take,List.getElem?_take]at hj;split at hj
  ·have:=h.cellAt j (by have:=(List.getElem?_eq_some_iff.1 hj).1;rw[tlCells_len]at this;omega)
   rw[hj]at this;unfold Addr.add;split
   ·rename_i h0;subst h0;simpa using this
   ·simpa using this
  ·cases hj
 have hik:i+(n+1-i)=n+1:=by omega
 have hkk:(n:Int)+1-(i:Int)=((n+1-i:Nat):Int):=by omega
 have hrun:=fun ty=>Go.Lib.run_append_grow_zeros (P:=Tryz.prog) w 107 3 ty 135 i0 z0 .i64 .i64 Tryz.underlying107 Tryz.underlying3 hi0 hz0 (some ⟨g,0,none⟩) i cap (tlCells (l.take i)) hold (n+1-i) (by omega) (by omega) (by omega) (by omega) (by rw[hzb];omega) (by
  rw[hzb,hik];have:=nextslicecap_le hroom;have h2:Builtin.nextslicecap (n+1) cap*40≤(2*(n+1))*40:=Nat.mul_le_mul_right _ this;omega)
 rw[hik]at hrun;have hG1:=grownCap_ge w (n+1) cap 135;have hG2:=grownCap_le_maxLen w (n+1) cap 135 (by unfold maxLen;omega);generalize grownCap w (n+1) cap 135=G at hrun hG1 hG2;have hzl: ∀k,(Builtin.zeroCells z0.cells k).size=k*4:=fun k=>by simp[Builtin.zeroCells,hz5]
 have hl1:(tlCells (l.take i)).length=i*4:=by rw[tlCells_len,List.length_take];omega
 refine⟨G,(Builtin.zeroCells z0.cells (n+1-i)).toList,_,fun ty=>by rw[hkk];exact hrun ty,by rw[Array.length_toList,hzl],⟨by rw[List.length_append,hl1,Array.length_toList,hzl];omega,.inr ⟨w.heap.size,G,_,rfl,hbase,heap_alloc_new w.drew _,hG1,hG2,?_,?_⟩⟩,?_,hG1,hG2⟩
 ·simp only[Array.size_append,List.size_toArray,hl1,hzl];omega
 ·have hl2:(tlCells (l.take i)++(Builtin.zeroCells z0.cells (n+1-i)).toList).length=(n+1)*4:=by rw[List.length_append,hl1,Array.length_toList,hzl];omega
  rw[Array.toList_append,Array.toList_append];exact List.take_left' hl2
 ·exact drew_grown (World.grownBy_alloc w.drew _ none)
set_option maxHeartbeats 8000000 in
set_option maxRecDepth 100000 in
theorem insertT_any (v:Value)(l:List Tl)(c:Tl)(base gs i:Nat)(w:World)(h:OwnT w base v l)(hbase:base≤w.heap.size)(hl:l.length≤1099511627776)(hi:i≤l.length)
 (hgb:Blk w gs 135 c.cells.toArray) (hgs:v.ownBlock≠some gs) (hc:True) (hf:True):
 Calls Tryz.prog 197 #[v,.int .i64 i,.slice (some ⟨gs,0,none⟩) 1 1] w fun e w'=> ∃v',e= .returned v'∧OwnT w' base v' (l.take i++c::l.drop i)∧w.grownBy w' v.ownBlock∧(v'.ownBlock=v.ownBlock∨ ∀k,v'.ownBlock=some k→w.heap.size≤k):=by
 have HO:=Lib.hid h;have HGB:=Lib.hid hgb;have HS:=Lib.hid (Sl.block hgb 1 1 (Nat.le_refl _) (by decide));rw[show c.cells.toArray.toList=c.cells from rfl]at HS;have HC:=Lib.hid hc;have HF:=Lib.hid hf;have HONE:=Lib.hid (tl_one c);obtain⟨A0,c0,rfl,hc1,hc2,-⟩:=Sl.of_own h.own;unfold maxLen at hc2;have i0:(0:Int)≤(i:Int):=by omega
 have i1:(i:Int)≤(l.length:Int):=by omega
 clear h hgb hc hf;by_cases hin:i=l.length
 ·subst hin
  have hz:((l.length:Int)==(l.length:Int))=true:=beq_self_eq_true _;have hcc:c0=l.length∨ ¬c0=l.length:=Decidable.em _;rcases hcc with hcc|hcc
  ·subst hcc
   go_enter Tryz.func197,Tryz.ntmps197
   go_wp2_with (at_builtin;refine wpList_app rfl (.tmp 23) (.tmp 24) 107 rfl base 135 4 40 Tryz.underlying107 tlI _ l.length _ rfl HO.out.own _ 1 c.cells rfl HS.out rfl HONE.out ?_ ?_ hbase ?_)
   ·unfold maxLen;omega
   ·omega
   ·intro v7 w7 hown7 hg7 hat7
    have H7:=Lib.hid (HO.out.snoc hown7 hg7 hat7 HC.out HF.out);have HG7:=Lib.hid hg7;have HT7:=Lib.hid hat7;clear hown7 hg7 hat7;go_wp2;go_ret;refine⟨v7,rfl,?_,HG7.out,?_⟩
    ·rw[List.take_length,List.drop_length];exact H7.out
    ·rcases HT7.out with e|e
     ·exact .inl e
     ·exact .inr fun k hk=>by rw[e]at hk;injection hk with hk;omega
  ·skip
   go_enter Tryz.func197,Tryz.ntmps197
   go_wp2_with (at_builtin;refine wpList_app rfl (.tmp 23) (.tmp 24) 107 rfl base 135 4 40 Tryz.underlying107 tlI _ l.length _ rfl HO.out.own _ 1 c.cells rfl HS.out rfl HONE.out ?_ ?_ hbase ?_)
   ·unfold maxLen;omega
   ·omega
   ·intro v7 w7 hown7 hg7 hat7
    have H7:=Lib.hid (HO.out.snoc hown7 hg7 hat7 HC.out HF.out);have HG7:=Lib.hid hg7;have HT7:=Lib.hid hat7;clear hown7 hg7 hat7;go_wp2;go_ret;refine⟨v7,rfl,?_,HG7.out,?_⟩
    ·rw[List.take_length,List.drop_length];exact H7.out
    ·rcases HT7.out with e|e
     ·exact .inl e
     ·exact .inr fun k hk=>by rw[e]at hk;injection hk with hk;omega
 ·have hz:((i:Int)==(l.length:Int))=false:=beqF (by omega)
  obtain⟨g,cap,hform,hg3b,hg3l⟩:=HO.out.own.form (by omega);injection hform with e1 e2 e3;subst e1 e3;have HI:Hid (i<l.length):=Lib.hid (by omega);have hci: ¬c0=i:=by omega
  have hw1:IntKind.i64.wrap ((i:Int)+1)=(i:Int)+1:=by rw[IntKind.wrap_i64];omega
  have hw2:IntKind.i64.wrap ((l.length:Int)+1)=(l.length:Int)+1:=by rw[IntKind.wrap_i64];omega
  have hw3:IntKind.i64.wrap ((l.length:Int)+1-(i:Int))=(l.length:Int)+1-(i:Int):=by rw[IntKind.wrap_i64];omega
  have hb1:(0:Int)≤(i:Int)+1:=by omega
  have hb3:(i:Int)≤(l.length:Int)+1:=by omega
  have htn:((i:Int)+1).toNat=i+1:=by omega
  have htm:((l.length:Int)+1).toNat=l.length+1:=by omega
  by_cases hroom:c0<l.length+1
  ·have hz3:(c0:Int)<(l.length:Int)+1:=by omega
   obtain⟨G,ys,W1,hrun1,hys,hown1,hg1,hG1,hG2⟩:=grow_zerosT HO.out.own rfl HI.out hroom hl hbase;have HR1:=Lib.hid hrun1;have hGi: ¬G=i:=by have:=HI.out;omega
   have hGj: ¬G=i+1:=by have:=HI.out;omega
   have hG9:G≤9223372036854775807:=by unfold maxLen at hG2;exact hG2
   have S1:=HS.out.grown_ hg1 (fun _ _=>by simp);obtain⟨W2,hrun2,hown2,hg2⟩:=own_copyT (o:=i) (k:=1) (dl:=l.length+1-i) (sl:=1) (c1:=G-i) (c2:=1) (a:=⟨gs,0,none⟩) (cs:=c.cells) hown1 (by have:=HI.out;omega) (by show min _ _=_;have:=HI.out;omega) rfl (sl_cells S1) HONE.out;have hg12:w.grownBy W2 none:=grown_new hg1 hg2 (fun j hj=> .inr (by injection hj with hj;omega));have S2:=own_drew (HO.out.own.kept hg12 (.inr (by simp[Value.ownBlock])))
   obtain⟨W3,hrun3,hown3,hg3⟩:=own_copyT (w:=W2.drew) (o:=i+1) (k:=l.length-i) (dl:=l.length-i) (sl:=l.length-i) (c1:=G-(i+1)) (c2:=c0-i) (a:=⟨g,i*4,none⟩) (cs:=tlCells (l.drop i)) hown2 (by have:=HI.out;omega) (by show min _ _=_;have:=HI.out;omega) (by rw[tlCells_len,List.length_drop]) (own_cellsT S2) (fun u hu=>by
    obtain⟨d,hd,hu⟩:=List.mem_flatMap.1 hu;exact tl_one d u hu)
   have hg13:w.grownBy W3 none:=grown_new (grown_drew hg12) hg3 (fun j hj=> .inr (by injection hj with hj;omega));have HL1:(tlCells (l.take i)).length=i*4:=by rw[tlCells_len,List.length_take];have:=HI.out;omega
   have HX:Hid (OwnT W3 base (.slice (some ⟨w.heap.size,0,none⟩) (l.length+1) G) (l.take i++c::l.drop i)):=Lib.hid (by
    refine HO.out.laid (i:=i) (by have:=HI.out;omega) ?_ (grown_none hg13 _) (.inr (fun k hk=>by simp[Value.ownBlock]at hk;omega)) HC.out HF.out;have e1:(tlCells (l.take i)++ys).take (i*4)=tlCells (l.take i):=by rw[List.take_append_of_le_length (by omega),List.take_of_length_le (by omega)]
    rw[e1]at hown3;have e2:(tlCells (l.take i)++c.cells).length=(i+1)*4:=by rw[List.length_append,HL1,Tl.cells_len];omega
    have e3:(tlCells (l.take i)++c.cells++(tlCells (l.take i)++ys).drop ((i+1)*4)).drop ((i+1+(l.length-i))*4)=[]:=List.drop_eq_nil_of_le (by rw[List.length_append,List.length_append,List.length_drop,List.length_append,HL1,hys,Tl.cells_len];have:=HI.out;omega);rw[e3,List.take_append_of_le_length (by rw[e2];exact Nat.le_refl _),List.take_of_length_le (by rw[e2];exact Nat.le_refl _),List.append_nil,List.append_assoc]at hown3;exact hown3)
   have HG:=Lib.hid (grown_none hg13 (Value.slice (some ⟨g,0,none⟩) l.length c0).ownBlock);have HR2:=Lib.hid hrun2;have HR3:=Lib.hid hrun3;clear hrun1 hrun2 hrun3 hown1 hown2 hown3 hg1 hg2 hg3 hg12 hg13 S1 S2 HL1 hG2;go_enter Tryz.func197,Tryz.ntmps197
   have hr2:=HR2.out
   go_wp2_with (at_builtin;refine wpList_append_run rfl (.tmp 34) (.tmp 39) 107 3 rfl _ _ rfl rfl (HR1.out _) ?_)
   refine wp_region_held_drew (S:=(fun _=>True)) (by kernel_rfl) trivial (fun hHeld=> ?_);refine tk 0 ?_;refine tk 1 ?_;refine tk 2 ?_;refine tk 3 ?_;refine tk 4 ?_;refine tk 5 ?_;refine tk 6 ?_;refine tk 7 ?_;refine tc 8 ?_;intro K hK;refine step_copy_run (by rfl) (.tmp 50) (.tmp 53) 107 107 (by rfl) _ _ (by rfl) (by rfl) (HR3.out _) ?_;refine hK.out _ _ trivial (fun hHeld8=> ?_);clear hK K;refine td ?_;go_wp2;go_ret;exact⟨_,rfl,HX.out,HG.out,.inr (fun k hk=>by simp[Value.ownBlock]at hk;omega)⟩
  ·have hz3: ¬(c0:Int)<(l.length:Int)+1:=by omega
   have hci2: ¬c0=i+1:=by have:=HI.out;omega
   obtain⟨ys,hys,hown1⟩:=own_moreT HO.out.own (by omega);have hgw:g<w.heap.size:=(HO.out.own.lt g rfl).2
   have hov: ∀lb cb,(callFunc 233 #[.slice (some ⟨gs,0,none⟩) 1 1,.slice (some ⟨g,(i+1)*4,none⟩) lb cb]).run Tryz.prog w= .ok (.value (.bool false)) w:=fun lb cb=>by
    have hgs':gs≠g:=fun e=>hgs (by rw[e];rfl);obtain⟨cur,hcur,hcs⟩:=own_block HO.out.own
    rw[run_callFunc_extern Tryz.func233 (by kernel_rfl) (by kernel_rfl) (by kernel_rfl) (e:=Extern.SlicesOverlaps.overlaps #[107,107] #[4]) (by kernel_rfl),
     Go.Lib.run_overlaps_apart w 107 4 135 Tryz.underlying107 4 (fun _=>by kernel_rfl) ⟨gs,0,none⟩ ⟨g,(i+1)*4,none⟩ 1 1 lb cb hgs' _ _ _ _ (shape_blk HGB.out) (shape_blk' hcur) (by rw[hcs];have:=HI.out;omega) (HGB.out.free 0) (HGB.out.free _)]
    rfl
   obtain⟨W2,hrun2,hown2,hg2⟩:=own_copyT (w:=w.drew) (o:=i+1) (k:=l.length-i) (dl:=l.length-i) (sl:=l.length+1-i) (c1:=c0-(i+1)) (c2:=c0-i) (a:=⟨g,i*4,none⟩) (cs:=tlCells (l.drop i)) (own_drew hown1) (by have:=HI.out;omega) (by show min _ _=_;have:=HI.out;omega) (by rw[tlCells_len,List.length_drop]) (own_cellsT (own_drew HO.out.own)) (fun u hu=>by
    obtain⟨d,hd,hu⟩:=List.mem_flatMap.1 hu;exact tl_one d u hu)
   have S2:=sl_grown (HS.out.drew_) hg2 (fun k hk e=>hgs (by
    have h1:gs=k:=by simpa[Value.ownBlock]using hk
    have h2:g=k:=by simpa using e
    rw[h1,←h2];rfl))
   obtain⟨W3,hrun3,hown3,hg3⟩:=own_copyT (o:=i) (k:=1) (dl:=l.length+1-i) (sl:=1) (c1:=c0-i) (c2:=1) (a:=⟨gs,0,none⟩) (cs:=c.cells) hown2 (by have:=HI.out;omega) (by show min _ _=_;have:=HI.out;omega) rfl (sl_cells S2) HONE.out;have hg13:w.grownBy W3 (some g):=grown_trans (drew_grown hg2) hg3;have HL1:(tlCells (l.take i)).length=i*4:=by rw[tlCells_len,List.length_take];have:=HI.out;omega
   have HX:Hid (OwnT W3 base (.slice (some ⟨g,0,none⟩) (l.length+1) c0) (l.take i++c::l.drop i)):=Lib.hid (by
    refine HO.out.laid (i:=i) (by have:=HI.out;omega) ?_ hg13 (.inl rfl) HC.out HF.out;have e0:(tlCells l).length=l.length*4:=tlCells_len l
    have e1:(tlCells l++ys).take ((i+1)*4)=(tlCells (l.take i))++((tlCells l).drop (i*4)).take 4:=by
     rw[List.take_append_of_le_length (by rw[e0];have:=HI.out;omega),show(i+1)*4=i*4+4 by omega,List.take_add,tl_take]
    have e2:(tlCells l++ys).drop ((i+1+(l.length-i))*4)=[]:=List.drop_eq_nil_of_le (by rw[List.length_append,e0,hys];have:=HI.out;omega);have e3:(((tlCells l).drop (i*4)).take 4).length=4:=by rw[List.length_take,List.length_drop,e0];have:=HI.out;omega
    have e6:(tlCells l++ys).take ((i+1)*4)++tlCells (l.drop i)++(tlCells l++ys).drop ((i+1+(l.length-i))*4)=tlCells (l.take i)++(((tlCells l).drop (i*4)).take 4++tlCells (l.drop i)):=by rw[e1,e2,List.append_nil,List.append_assoc]
    rw[e6]at hown3;have e4:(tlCells (l.take i)++(((tlCells l).drop (i*4)).take 4++tlCells (l.drop i))).take (i*4)=tlCells (l.take i):=by rw[List.take_append_of_le_length (by omega),List.take_of_length_le (by omega)]
    have e5:(tlCells (l.take i)++(((tlCells l).drop (i*4)).take 4++tlCells (l.drop i))).drop ((i+1)*4)=tlCells (l.drop i):=by
     rw[←List.append_assoc];exact List.drop_left' (by rw[List.length_append,HL1,e3];omega)
    rw[e4,e5,List.append_assoc]at hown3;exact hown3)
   have HG:=Lib.hid hg13;have HR2:=Lib.hid hrun2;have HR3:=Lib.hid hrun3;clear hrun2 hrun3 hown1 hown2 hown3 hg2 hg3 hg13 S2 HL1;go_enter Tryz.func197,Tryz.ntmps197
   go_wp2_with (simp only[hov])
   refine wp_region_held_drew (S:=(fun _=>True)) (by kernel_rfl) trivial (fun hHeld=> ?_);refine tk 0 ?_;refine tk 1 ?_;refine tk 2 ?_;refine tk 3 ?_;refine tk 4 ?_;refine tk 5 ?_;refine tk 6 ?_;refine tk 7 ?_;refine tc 8 ?_;intro K hK;refine step_copy_run (by rfl) (.tmp 73) (.tmp 76) 107 107 (by rfl) _ _ (by rfl) (by rfl) (HR2.out _) ?_;refine hK.out _ _ trivial (fun hHeld8=> ?_);clear hK K;refine td ?_;have hr3:=HR3.out;go_wp2;go_ret;exact⟨_,rfl,HX.out,HG.out,.inl rfl⟩
end Go.Proofs.YtblhidmkalleoaaGreatDoor
namespace Go.Proofs.YtblhidmkalleoaaGreatDoor
open Go.RowKit
def setsL:List Value→Nat→List Value→List Value
 |xs,_,[]=>xs
 |xs,o,v::r=>setsL (xs.set o v) (o+1) r
theorem setsL_out: ∀ {vs xs:List Value} {o:Nat},xs.length≤o→setsL xs o vs=xs
 |[],_,_,_=>rfl
 |v::r,xs,o,h=>by
  unfold setsL;rw[List.set_eq_of_length_le h];exact setsL_out (by omega)
theorem setsL_in: ∀ {vs xs:List Value} {o:Nat},o+vs.length≤xs.length→setsL xs o vs=xs.take o++vs++xs.drop (o+vs.length)
 |[],xs,o,h=>by simp[setsL]
 |v::r,xs,o,h=>by
  simp only[List.length_cons]at h;unfold setsL;rw[setsL_in (by rw[List.length_set];omega),List.take_add_one,List.take_set_of_le (Nat.le_refl _),List.getElem?_set_self (by omega),List.drop_set_of_lt (by omega),List.length_cons,show o+1+r.length=o+(r.length+1) by omega];simp
theorem own_setCells {base:Nat}{e:TypeId}{size g n cap:Nat}: ∀ {vs:List Value} {w:World} {xs:List Value} {o:Nat},w.ownsRow base e size (.slice (some ⟨g,0,none⟩) n cap) n xs→
 (w.setCells g o vs).ownsRow base e size (.slice (some ⟨g,0,none⟩) n cap) n (setsL xs o vs)∧w.grownBy (w.setCells g o vs) (some g)
 |[],w,xs,o,h=>⟨h,World.grownBy.refl w _⟩
 |v::r,w,xs,o,h=>by
  obtain⟨h1,h2⟩:=h.stored o v;obtain⟨h3,h4⟩:=own_setCells (vs:=r) (o:=o+1) h1;exact⟨h3,grown_trans h2 h4⟩
theorem run_clear_wide {P:Program}(w:World)(t e ty:TypeId)(z:Value)(zs:List Value)(ht:P.underlying t=some (.slice e))(hv: ∀w,(zeroValue e).run P w= .ok z w)(b o n c:Nat)(hn:0<n)(hz:(Builtin.zeroCells z.cells n).toList=zs)(h1: ∀v∈zs,v.oneCell'=true)
 (hc: ∀j,j<zs.length→(w.cell? ⟨b,o+j,none⟩).isSome=true) (hf: ∀j,j<zs.length→w.frozen? ⟨b,o+j,none⟩=false):
 (Builtin.clear_ #[t] ty #[.slice (some ⟨b,o,none⟩) n c]).run P w= .ok (.tuple #[]) (w.setCells b o zs):=by
 have hst:=run_storeCells_cells (P:=P) b o zs 0 w (by simpa using hc) (by simpa using hf) h1;simp only[Nat.add_zero]at hst;obtain⟨m,rfl⟩: ∃m,n=m+1:=⟨n-1,by omega⟩;simp[Builtin.clear_,run_underlying ht,hv,hz,hst]
def zT:List Value:=[.int .i64 0,.int .i64 0,.string ⟨#[]⟩,.int .i64 0]
set_option maxHeartbeats 8000000 in
set_option maxRecDepth 100000 in
theorem deleteT_any (v:Value)(l:List Tl)(base i:Nat)(w:World)(h:OwnT w base v l)(hi:i<l.length):
 Calls Tryz.prog 198 #[v,.int .i64 i,.int .i64 ((i:Int)+1)] w fun e w'=> ∃v',e= .returned v'∧OwnT w' base v' (l.take i++l.drop (i+1))∧w.grownBy w' v.ownBlock∧v'.ownBlock=v.ownBlock:=by
 obtain⟨g,c0,rfl,hgb,hgl⟩:=h.own.form (by omega);have HO:=Lib.hid h.own;have HB:=h.own;obtain⟨A,c,ev,hc1,hc2,-⟩:=Sl.of_own h.own;injection ev with e1 e2 e3;subst e1 e3;unfold maxLen at hc2;obtain⟨M,hM⟩: ∃M,l.length=M+1:=⟨l.length-1,by omega⟩;have HM:=Lib.hid hM;have hiM:i≤M:=by omega
 obtain⟨i0,z0,hi0,hz0,hz1,hz2,hz3,hz4⟩:=tlI;have hnews:Hid ((tlCells (l.drop (i+1))).length=(M-i)*4):=Lib.hid (by rw[tlCells_len,List.length_drop];omega);have hone:Hid (∀u∈tlCells (l.drop (i+1)),u.oneCell'=true):=Lib.hid (tlCells_one _)
 obtain⟨A,hA,hsrc⟩: ∃A:Addr,(if c0=i+1 then some (⟨g,0,none⟩:Addr)else some ⟨g,(i+1)*4,none⟩)=some A∧Hid (∀t u,(tlCells (l.drop (i+1)))[t]?=some u→w.drew.cell? (A.add t)=some u):=by
  by_cases hcc:c0=i+1
  ·refine⟨⟨g,0,none⟩,by simp[hcc],fun t u hu=> ?_⟩
   have h0:(tlCells (l.drop (i+1))).length=0:=by rw[hnews.out];omega
   rw[List.length_eq_zero_iff.1 h0]at hu;simp at hu
  ·refine⟨⟨g,(i+1)*4,none⟩,by simp[hcc],fun t u hu=> ?_⟩
   rw[←tl_drop,List.getElem?_drop]at hu;have hlt:(i+1)*4+t<l.length*4:=by have:=(List.getElem?_eq_some_iff.1 hu).1;rw[tlCells_len]at this;exact this
   have h1:=h.own.cellAt ((i+1)*4+t) hlt;rw[hu]at h1;rw[Addr.add_lit];exact h1
 have hspare:Hid (∀t,t<(tlCells (l.drop (i+1))).length→(w.drew.cell? ⟨g,0+i*4+t,none⟩).isSome=true∧w.drew.frozen? ⟨g,0+i*4+t,none⟩=false):=Lib.hid (fun t ht=>by
  rw[hnews.out]at ht;refine⟨?_,h.own.frozenAt _⟩;show(w.cell? _).isSome=true;rw[h.own.cellAt (0+i*4+t) (by omega),List.getElem?_eq_getElem (by rw[tlCells_len];omega)];rfl)
 obtain⟨W1,hW1⟩: ∃W1,W1=w.drew.setCells g (0+i*4) (tlCells (l.drop (i+1))):=⟨_,rfl⟩;obtain⟨o1,g1⟩:=own_setCells (vs:=tlCells (l.drop (i+1))) (o:=0+i*4) (show w.drew.ownsRow base 135 4 (.slice (some ⟨g,0,none⟩) l.length c0) l.length (tlCells l)from h.own);rw[←hW1]at o1 g1;rw[setsL_in (by rw[hnews.out,tlCells_len];omega),Nat.zero_add,tl_take,←tlCells_app,hM]at o1;have hl2:(l.take i++l.drop (i+1)).length=M:=by rw[List.length_append,List.length_take,List.length_drop];omega
 have o2:=ownsRow_pop (by rw[tlCells_len,hl2]) o1
 have hcl: ∀ty,(Builtin.clear_ #[107] ty #[.slice (some ⟨g,M*4,none⟩) 1 (c0-M)]).run Tryz.prog W1= .ok (.tuple #[]) (W1.setCells g (M*4) zT):=fun ty=>by
  refine run_clear_wide W1 107 135 ty (.agg #[.int .i64 0,.int .i64 0,.string ⟨#[]⟩,.int .i64 0]) zT Tryz.underlying107 (fun w=>by kernel_rfl) g (M*4) 1 (c0-M) (by omega) (by kernel_rfl) (by intro u hu;simp[zT]at hu;rcases hu with rfl|rfl|rfl<;>rfl) (fun j hj=> ?_) (fun j hj=>o1.frozenAt _);have hj:j<4:=hj;rw[o1.cellAt (M*4+j) (by omega),List.getElem?_eq_getElem (by rw[o1.1];omega)];rfl
 obtain⟨o3,g3⟩:=own_setCells (vs:=zT) (o:=M*4) o2;rw[setsL_out (by rw[tlCells_len,hl2];exact Nat.le_refl _)]at o3;have HW:=Lib.hid hW1;have HO3:Hid (OwnT (W1.setCells g (M*4) zT) base (.slice (some ⟨g,0,none⟩) M c0) (l.take i++l.drop (i+1))):=Lib.hid ⟨by rw[hl2];exact o3⟩;have HG3:=Lib.hid (grown_trans (drew_grown g1) g3);clear o1 o2 o3 g1 g3 hW1 hl2 HB hM h HO;have hq1:((i:Int)==(i:Int)+1)=false:=beqF (by omega);have hiL:i<l.length:=by have:=HM.out;omega
 have hiM2:i+(M-i)=M:=by omega
 have hL1:l.length-(i+1)=M-i:=by have:=HM.out;omega
 have hL2:l.length-M=1:=by have:=HM.out;omega
 have hcM: ¬c0=M:=by have:=HM.out;omega
 have hMl:M≤l.length:=by have:=HM.out;omega
 have hMc:M≤c0:=by have:=HM.out;omega
 have hlc:l.length≤c0:=by omega
 have hic:i≤c0:=by omega
 have hjc:i+1≤c0:=by omega
 have hj0:(0:Int)≤(i:Int)+1:=by omega
 have hj1:(i:Int)+1≤(c0:Int):=by omega
 have hj2:((i:Int)+1).toNat=i+1:=by omega
 have hj3:(i:Int)+1≤(l.length:Int):=by omega
 clear hi hgl hgb;go_enter Tryz.func198,Tryz.ntmps198
 go_wp2_with fail
 refine tr (S:=(fun _=>True)) trivial (fun hHeld=> ?_);refine tk 0 ?_;refine tk 1 ?_;refine tk 2 ?_;refine tk 3 ?_;refine tk 4 ?_;refine tk 5 ?_;refine tc 6 ?_;intro K hK;refine step_append_room rfl (.tmp 22) (.tmp 25) 107 rfl 135 i0 4 Tryz.underlying107 hi0 hz1 g 0 i c0 (by rfl) A (M-i) (c0-(i+1)) (tlCells (l.drop (i+1))) (by rfl) hnews.out hsrc.out hone.out (by omega) hspare.out ?_;rw[←HW.out];refine hK.out _ _ trivial (fun hHeld6=> ?_);clear hK K;refine tk 7 ?_;refine td ?_;go_wp2;go_ret;exact⟨_,rfl,HO3.out,HG3.out,rfl⟩
end Go.Proofs.YtblhidmkalleoaaGreatDoor
