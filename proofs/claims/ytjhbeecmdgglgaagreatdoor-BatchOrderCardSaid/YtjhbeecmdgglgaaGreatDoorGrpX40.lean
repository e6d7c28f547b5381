/-Batches: the reference's JoinAll. (Printed by genbat15.py.) -/
import Derived.Test.YtjhbeecmdgglgaaGreatDoorGrpX39
import Derived.Test.YtjhbeecmdgglgaaGreatDoorGrpX36
import Derived.Test.YtjhbeecmdgglgaaGreatDoorGrpX38
set_option linter.unusedSimpArgs false
set_option linter.unusedVariables false
namespace Go.Proofs.YtjhbeecmdgglgaaGreatDoor
open Go.RowKit Go.Maps
open tm (fitsB)
theorem mul_few {a b:Nat}(h:a+b≤120):a*(b+1)≤3721:=by
 have h1:b+1≤121-a:=by omega
 refine Nat.le_trans (Nat.mul_le_mul_left a h1) ?_;have h2:a≤120:=by omega
 have h3: ∀n:Fin 121,n.1*(121-n.1)≤3721:=by decide
 exact h3 ⟨a,by omega⟩
theorem alB_put {p:Pl}{R Lk:List Cg}{D:List Int}{i:Nat}:alB p R Lk (D++[(i:Int)])=(alB p R Lk D).set i false:=by
 have h:=alB_step (p:=p) (R:=R) (Lk:=Lk) (W:=D++[(i:Int)]) (j:=D.length) (i:=i) (by simp);rwa[List.take_left' rfl,List.take_of_length_le (by simp)]at h
abbrev metB (p:Pl) (R Lk:List Cg) (done:List Int):List Bool:=(alB p R Lk done).map (!·)
theorem withN_len (p:Pl)(R:List Cg)(x:Cg){k:Nat}(h:k≤R.length):(withN p R x k).length≤R.length:=by
 unfold withN;rw[List.length_map];refine Nat.le_trans (List.length_filter_le _ _) ?_;rw[List.length_range];exact h
set_option maxHeartbeats 16000000 in
set_option maxRecDepth 10000 in
theorem joinAll_any (p:Pl)(vL vR:Value)(L R:List Chn)(w:World)(h:p.ok w)(hg:GoodB2 p (ac L) (ac R))(hL:Chs w vL L)(hR:Chs w vR R)(hfl: ∀x∈L,Fine x.r)(hfr: ∀x∈R,Fine x.r):
 Calls Tryz.prog 14 #[.agg #[.int .i64 p.kind,.int .i64 p.mode,.int .i64 p.low,.int .i64 p.high,.int .i64 p.size,.int .i64 p.limit,p.vl,p.vr,p.vk,p.vq,.bool p.grouped,p.vg,p.va],vL,vR] w fun e w'=> ∃v' l',e= .returned v'∧View w' v' l'∧av l'=viewR (joinL p (ac L) (ac R))∧Below w.heap.size w w':=by
 have HL:=Lib.hid hL;have HR:=Lib.hid hR;have HG:=Lib.hid hg;have HFL:=Lib.hid hfl;have HFR:=Lib.hid hfr;have hfew:L.length+R.length≤120:=by have:=hg.few;rw[ac_lenC,ac_lenC]at this;exact this
 have HRE:=Lib.hid (show(∀x∈L,rowE p 1 x.r=0∧fitsB x.k=true)∧ ∀x∈R,rowE p 2 x.r=0∧fitsB x.k=true from⟨fun x hx=>⟨hg.lr (x.k,x.r) (List.mem_map.2 ⟨x,hx,rfl⟩),hg.lt (x.k,x.r) (List.mem_map.2 ⟨x,hx,rfl⟩)⟩,fun x hx=>⟨hg.rr (x.k,x.r) (List.mem_map.2 ⟨x,hx,rfl⟩),hg.rt (x.k,x.r) (List.mem_map.2 ⟨x,hx,rfl⟩)⟩⟩);have HVERS:=Lib.hid (fun(W:World) (hb:Below w.heap.size w W) (x:Chn) (hx:x∈L)=>rversion_any p x.k x.v vR x.r R W (h.below hb) hg.plan ((hL.rows x hx).below hb) (hR.below hb) (hfl x hx) hfr (HRE.out.1 x hx).1 (fun y hy=>(HRE.out.2 y hy).1) (by omega));have HPAIR:=Lib.hid (fun(W:World) (hb:Below w.heap.size w W) (hk:p.kind≠3) (x:Chn) (hx:x∈L) (y:Chn) (hy:y∈R)=>rpair_any p x.k y.k x.v y.v x.r y.r W (h.below hb) hg.plan hk ((hL.rows x hx).below hb) ((hR.rows y hy).below hb) (hfl x hx) (hfr y hy) (HRE.out.1 x hx).1 (HRE.out.2 y hy).1 (HRE.out.1 x hx).2 (HRE.out.2 y hy).2 (meetP_of hg.plan));have HKL:=Lib.hid (fun(W:World) (hb:Below w.heap.size w W)=>keepsLeft_any p W (h.below hb));have HKR:=Lib.hid (fun(W:World) (hb:Below w.heap.size w W)=>keepsRight_any p W (h.below hb));obtain⟨RR,hRR⟩: ∃y,viewR (joinL p (ac L) (ac R))=y:=⟨_,rfl⟩;rw[hRR];have HRR:=Lib.hid hRR;obtain⟨A0,c0,h0,n0,m0,-⟩:=id h.l;obtain⟨A1,c1,h1,n1,m1,-⟩:=id h.r;obtain⟨A2,c2,h2,n2,m2,-⟩:=id h.k;obtain⟨A3,c3,h3,n3,m3,-⟩:=id h.q;obtain⟨A4,c4,h4,n4,m4,-⟩:=id h.g;obtain⟨A5,c5,h5,n5,m5,-⟩:=id h.a;obtain⟨AL,cL,rfl,nL,mL,-⟩:=id hL.sl;obtain⟨AR,cR,rfl,nR,mR,-⟩:=id hR.sl;unfold maxLen at mL mR;rw[h0,h1,h2,h3,h4,h5]at HVERS HPAIR HKL HKR⊢;have HB:=Lib.hid (below_alloc w (.cells #[.int .i64 p.kind,.int .i64 p.mode,.int .i64 p.low,.int .i64 p.high,.int .i64 p.size,.int .i64 p.limit,.slice A0 p.left.length c0,.slice A1 p.right.length c1,.slice A2 p.lkeys.length c2,.slice A3 p.rkeys.length c3,.bool p.grouped,.slice A4 p.group.length c4,.slice A5 p.aggs.length c5] 25));have HK0:=Lib.hid (Blk.new w 25 #[.int .i64 p.kind,.int .i64 p.mode,.int .i64 p.low,.int .i64 p.high,.int .i64 p.size,.int .i64 p.limit,.slice A0 p.left.length c0,.slice A1 p.right.length c1,.slice A2 p.lkeys.length c2,.slice A3 p.rkeys.length c3,.bool p.grouped,.slice A4 p.group.length c4,.slice A5 p.aggs.length c5]);obtain⟨W1,hW1⟩: ∃V,w.alloc (.cells #[.int .i64 p.kind,.int .i64 p.mode,.int .i64 p.low,.int .i64 p.high,.int .i64 p.size,.int .i64 p.limit,.slice A0 p.left.length c0,.slice A1 p.right.length c1,.slice A2 p.lkeys.length c2,.slice A3 p.rkeys.length c3,.bool p.grouped,.slice A4 p.group.length c4,.slice A5 p.aggs.length c5] 25)=V:=⟨_,rfl⟩;have HSZ1:Hid (W1.heap.size=w.heap.size+1):=Lib.hid (by rw[←hW1];simp);rw[hW1]at HB HK0;have HKC:=Lib.hid (Blk.new W1 27 #[.slice none 0 0]);have hb2:=below_alloc W1 (.cells #[.slice none 0 0] 27);obtain⟨c,hc⟩: ∃y,W1.heap.size=y:=⟨_,rfl⟩;obtain⟨w2,hw2⟩: ∃V,W1.alloc (.cells #[.slice none 0 0] 27)=V:=⟨_,rfl⟩;have HSZ2:Hid (w2.heap.size=c+1):=Lib.hid (by rw[←hw2,←hc];simp);rw[hw2]at HKC hb2;rw[hc]at HKC;obtain⟨zs,hzs,hmk⟩:=bool_make R.length (by omega);have hb3:=hb2.alloc hb2.size (.cells zs 4)
 have HBA:Hid (BRow (w2.alloc (.cells zs 4)) w2.heap.size (metB p (ac R) [] [])):=Lib.hid (by
  have e:metB p (ac R) [] []=List.replicate R.length false:=by
   unfold metB;rw[alB_start,ac_lenC];simp
  rw[e,hzs];exact Blk.new w2 4 _)
 have HKB:=Lib.hid (HKC.out.alloc (.cells zs 4));obtain⟨ga,hga⟩: ∃y,w2.heap.size=y:=⟨_,rfl⟩;obtain⟨wB,hwB⟩: ∃V,w2.alloc (.cells zs 4)=V:=⟨_,rfl⟩;have HSZB:Hid (wB.heap.size=ga+1):=Lib.hid (by rw[←hwB,←hga];simp);have HGE:Hid (ga=c+1):=Lib.hid (by have:=HSZ2.out;omega);have HC0:Hid (c=w.heap.size+1):=Lib.hid (by have:=HSZ1.out;omega);rw[hwB]at hb3 HBA HKB;rw[hga]at HBA;have HyB:=Lib.hid hb3;have HbB:=Lib.hid (below_trans HB.out hb3);have HOLD:=Lib.hid (fun(W:World) (hT:Turned (fun b=>b=c∨b=ga) wB W)=>And.intro (below_turned HbB.out hT (fun k hk=>by have h1:=HGE.out;have h2:=HC0.out;rcases hk with rfl|rfl<;>omega)) (below_turned HyB.out hT (fun k hk=>by have h1:=HGE.out;rcases hk with rfl|rfl<;>omega)));have HCB:Hid (c<wB.heap.size∧ga<wB.heap.size∧c≠ga):=Lib.hid (by have h1:=HSZB.out;have h2:=HGE.out;omega);have hbw1:=HB.out;clear h h0 h1 h2 h3 h4 h5 n0 n1 n2 n3 n4 n5 m0 m1 m2 m3 m4 m5 hL hR hfl hfr hg hRR hzs hb2 hb3 HKC;go_enter Tryz.func14,Tryz.ntmps14
 go_upto_region 4 with(rw[hc,hga];skip)
 clear hwB hw2 hmk hga hW1 hbw1
 go_wp2_with (first|(rw[hc];skip)|fail)
 clear hc
 go_loopw[10,11,12] (fun iv _ _ wr=> ∃(i:Nat) (l:List Cnt) (vl:Value),i≤L.length∧iv= .int .i64 i∧Hid (OwnV wr wB.heap.size vl l)∧Hid (∀x∈l,∀k,x.v.ownBlock=some k→wB.heap.size≤k)∧Hid (Blk wr c 27 #[vl])∧Hid (BRow wr ga (metB p (ac R) ((ac L).take i) []))∧Hid (VR (((ac L).take i).flatMap (pairsOf p (ac R))) (av l))∧Hid (Turned (fun b=>b=c∨b=ga) wB wr)) (fun iv _ _ _=>L.length-(intOf iv).toNat)
 case atStart=>exact⟨0,[],_,by omega,rfl,Lib.hid (OwnV.nil _ _),Lib.hid nofun,HKB,HBA,Lib.hid VR.start,Lib.hid (Turned.refl _ _)⟩
 case round=>
  clear HBA HKB;rename World=>wr
  obtain⟨i,l,vl,hi,rfl,HO,HFB,HKc,HBR,HVR,HT⟩:=hrel;by_cases hlt:i<L.length
  ·have hxx:=List.getElem?_eq_getElem (l:=L) hlt
   generalize L[i]=x at hxx;have hxmx:=List.mem_of_getElem? hxx;obtain⟨Ax,cx,exx,-⟩:=id (HL.out.rows x hxmx);obtain⟨bL,oL,hAL,-,hcbx⟩:=chn_at HL.out.sl rfl hxx;subst hAL;have HSx:Hid (∀W,Below w.heap.size w W→Sl W (.slice Ax x.r.length cx) x.r.length (rowCells x.r)):=Lib.hid (fun W hb=>by rw[←exx];exact(HL.out.rows x hxmx).below hb);have HCx:Hid (∀W,Below w.heap.size w W→W.cell? ⟨bL,oL+i*2,none⟩=some (.int .i64 x.k)∧W.cell? ⟨bL,oL+i*2+1,none⟩=some (.slice Ax x.r.length cx)):=Lib.hid (fun W hb=>by rw[←exx];exact hcbx W hb);have HXLx:Hid (x.r.length≤4):=Lib.hid (rowE_fine HG.out.plan (HRE.out.1 x hxmx).1).len;have HGDx:Hid (GoodR x.r):=Lib.hid (row_goodE HG.out.plan (HRE.out.1 x hxmx).1 (HFL.out x hxmx).nums);have HXAC:=Lib.hid (ac_atC hxx);have HVERX:=Lib.hid (fun(W:World) (hb:Below w.heap.size w W)=>HVERS.out W hb x hxmx);rw[exx]at HVERX;have HXM:=Lib.hid hxmx;have HEXX:=Lib.hid exx;obtain⟨Wx,hWx⟩: ∃y,withI p (ac R) (x.k,x.r)=y:=⟨_,rfl⟩;have HWX:=Lib.hid hWx
   have HRW0:Hid ((((ac L).take i).flatMap (pairsOf p (ac R))).length+(R.length+1)≤3721):=Lib.hid (by
    have h1:=flat_len_le (f:=pairsOf p (ac R)) ((ac L).take i) fun y _=>pairs_len p (ac R) y;rw[List.length_take,ac_lenC,ac_lenC,Nat.min_eq_left hi]at h1;have h2:=mul_few hfew;have h3:(i+1)*(R.length+1)≤L.length*(R.length+1):=Nat.mul_le_mul_right _ hlt;rw[Nat.succ_mul]at h3;omega)
   have HBR0:Hid (BRow wr ga (metB p (ac R) ((ac L).take i) (withN p (ac R) (x.k,x.r) 0))):=HBR;have HVR0:Hid (VR (((ac L).take i).flatMap (pairsOf p (ac R))++(withN p (ac R) (x.k,x.r) 0).map (fun n=>x.r++rowAt (ac R) n.toNat)) (av l)):=Lib.hid (by rw[withN_zero,List.map_nil,List.append_nil];exact HVR.out);have i0:(0:Int)≤(i:Int):=by omega
   have i1:(i:Int)<(L.length:Int):=by omega
   clear hxx hxmx exx hcbx hWx HBR HVR
   go_wp2_with fail
   go_loopw[11,12] (fun av2 kv wr2=> ∃(k:Nat) (l2:List Cnt) (vl2:Value),k≤R.length∧kv= .int .i64 k∧av2= .bool (withN p (ac R) (x.k,x.r) k).isEmpty∧Hid (OwnV wr2 wB.heap.size vl2 l2)∧Hid (∀x∈l2,∀k,x.v.ownBlock=some k→wB.heap.size≤k)∧Hid (Blk wr2 c 27 #[vl2])∧Hid (BRow wr2 ga (metB p (ac R) ((ac L).take i) (withN p (ac R) (x.k,x.r) k)))∧Hid (VR (((ac L).take i).flatMap (pairsOf p (ac R))++(withN p (ac R) (x.k,x.r) k).map (fun n=>x.r++rowAt (ac R) n.toNat)) (av l2))∧Hid (Turned (fun b=>b=c∨b=ga) wB wr2)) (fun _ kv _=>R.length-(intOf kv).toNat)
   case atStart=>exact⟨0,l,vl,by omega,rfl,rfl,HO,HFB,HKc,HBR0,HVR0,HT⟩
   case round=>
    clear HO HFB HKc HBR0 HVR0 HT;rename World=>wr2
    obtain⟨k,l2,vl2,hk,rfl,rfl,HO,HFB,HKc,HBR,HVR,HT⟩:=hrel;have hbr:=(HOLD.out wr2 HT.out).1;have hyr:=(HOLD.out wr2 HT.out).2;have HSZR:=Lib.hid HT.out.size;by_cases hlk:k<R.length
    ·have hxy:=List.getElem?_eq_getElem (l:=R) hlk
     generalize R[k]=y at hxy;have hxmy:=List.mem_of_getElem? hxy;obtain⟨Ay,cy,exy,-⟩:=id (HR.out.rows y hxmy);obtain⟨bR,oR,hAR,-,hcby⟩:=chn_at HR.out.sl rfl hxy;subst hAR;have HSy:Hid (∀W,Below w.heap.size w W→Sl W (.slice Ay y.r.length cy) y.r.length (rowCells y.r)):=Lib.hid (fun W hb=>by rw[←exy];exact(HR.out.rows y hxmy).below hb);have HCy:Hid (∀W,Below w.heap.size w W→W.cell? ⟨bR,oR+k*2,none⟩=some (.int .i64 y.k)∧W.cell? ⟨bR,oR+k*2+1,none⟩=some (.slice Ay y.r.length cy)):=Lib.hid (fun W hb=>by rw[←exy];exact hcby W hb);have HXLy:Hid (y.r.length≤4):=Lib.hid (rowE_fine HG.out.plan (HRE.out.2 y hxmy).1).len;have HGDy:Hid (GoodR y.r):=Lib.hid (row_goodE HG.out.plan (HRE.out.2 y hxmy).1 (HFR.out y hxmy).nums);have HRA:=Lib.hid (rowAt_ac hxy);have HTA:=Lib.hid (timeAt_ac hxy);have HNS:=Lib.hid (withN_step p (ac R) (x.k,x.r) k);have HNL:Hid ((withN p (ac R) (x.k,x.r) k).length≤R.length):=Lib.hid (by have:=withN_len p (ac R) (x.k,x.r) (k:=k) (by rw[ac_lenC];exact hk);rwa[ac_lenC]at this);obtain⟨q,hq⟩: ∃y,(withI p (ac R) (x.k,x.r)).contains (k:Int)=y:=⟨_,rfl⟩;rw[hq]at HNS;have HQE:=Lib.hid hq;have HPX:=Lib.hid (fun(W:World) (hb:Below w.heap.size w W) (hk3:p.kind≠3)=>HPAIR.out W hb hk3 x HXM.out y hxmy);rw[HEXX.out,exy]at HPX;have HWP:=Lib.hid (fun hk3:p.kind≠3=>with_pair (R:=ac R) (x:=(x.k,x.r)) (k:=k) hk3 (by rw[ac_lenC];exact hlk))
     have HSS:=Lib.hid (show ∀w',Below w.heap.size w w'∧Below W1.heap.size W1 w'→w'.cell? ⟨w.heap.size,0,none⟩=some (.int .i64 p.kind)∧w'.cell? ⟨w.heap.size,1,none⟩=some (.int .i64 p.mode)∧w'.cell? ⟨w.heap.size,2,none⟩=some (.int .i64 p.low)∧w'.cell? ⟨w.heap.size,3,none⟩=some (.int .i64 p.high)∧w'.cell? ⟨w.heap.size,4,none⟩=some (.int .i64 p.size)∧w'.cell? ⟨w.heap.size,5,none⟩=some (.int .i64 p.limit)∧w'.cell? ⟨w.heap.size,6,none⟩=some (.slice A0 p.left.length c0)∧w'.cell? ⟨w.heap.size,7,none⟩=some (.slice A1 p.right.length c1)∧w'.cell? ⟨w.heap.size,8,none⟩=some (.slice A2 p.lkeys.length c2)∧w'.cell? ⟨w.heap.size,9,none⟩=some (.slice A3 p.rkeys.length c3)∧w'.cell? ⟨w.heap.size,10,none⟩=some (.bool p.grouped)∧w'.cell? ⟨w.heap.size,11,none⟩=some (.slice A4 p.group.length c4)∧w'.cell? ⟨w.heap.size,12,none⟩=some (.slice A5 p.aggs.length c5)∧w'.cell? ⟨bL,oL+i*2,none⟩=some (.int .i64 x.k)∧w'.cell? ⟨bL,oL+i*2+1,none⟩=some (.slice Ax x.r.length cx)∧w'.cell? ⟨bR,oR+k*2,none⟩=some (.int .i64 y.k)∧w'.cell? ⟨bR,oR+k*2+1,none⟩=some (.slice Ay y.r.length cy)from fun w' hb=>by
      obtain⟨z0,z1,z2,z3,z4,z5,z6,z7,z8,z9,z10,z11,z12⟩:=pl_cells (HK0.out.below hb.2);exact⟨z0,z1,z2,z3,z4,z5,z6,z7,z8,z9,z10,z11,z12,(HCx.out _ hb.1).1,(HCx.out _ hb.1).2,(HCy.out _ hb.1).1,(HCy.out _ hb.1).2⟩)
     have HOLDY:=Lib.hid (show ∀w',Below wr2.heap.size wr2 w'→Below w.heap.size w w'∧Below W1.heap.size W1 w' from fun w' hb=>HOLD.out w' (HT.out.trans (turned_below hb)));have hy0:Below wr2.heap.size wr2 wr2.drew:=(Below.refl _ _).drew;have k0:(0:Int)≤(k:Int):=by omega
     have k1:(k:Int)<(R.length:Int):=by omega
     clear hxy hxmy exy hcby hq
     go_upto_region 11 with fail
     go_cut[60]from 24 to 76 (fun cv wx=>cv= .bool q∧Below wr2.heap.size wr2 wx)
     case first=>
      by_cases hk3:p.kind=3
      ·have kb:=beqT hk3
       have kn:=bneF hk3;have hve:=with_version (R:=ac R) (x:=(x.k,x.r)) (k:=k) hk3;rw[HQE.out]at hve;obtain⟨ve,hvee⟩: ∃y,verI p (ac R) (x.k,x.r)=y:=⟨_,rfl⟩;rw[hvee]at hve;have HVER:=Lib.hid (fun(W:World) (hb:Below w.heap.size w W∧Below W1.heap.size W1 W)=>HVERX.out W hb.1);rw[hvee]at HVER;clear hvee hk3;cases q with
       |true=>
        have hve':(ve==(k:Int))=true:=hve.symm;clear hve;refine tr (S:=(fun w'=>w'.cell? ⟨w.heap.size,0,none⟩=some (.int .i64 p.kind)∧w'.cell? ⟨w.heap.size,1,none⟩=some (.int .i64 p.mode)∧w'.cell? ⟨w.heap.size,2,none⟩=some (.int .i64 p.low)∧w'.cell? ⟨w.heap.size,3,none⟩=some (.int .i64 p.high)∧w'.cell? ⟨w.heap.size,4,none⟩=some (.int .i64 p.size)∧w'.cell? ⟨w.heap.size,5,none⟩=some (.int .i64 p.limit)∧w'.cell? ⟨w.heap.size,6,none⟩=some (.slice A0 p.left.length c0)∧w'.cell? ⟨w.heap.size,7,none⟩=some (.slice A1 p.right.length c1)∧w'.cell? ⟨w.heap.size,8,none⟩=some (.slice A2 p.lkeys.length c2)∧w'.cell? ⟨w.heap.size,9,none⟩=some (.slice A3 p.rkeys.length c3)∧w'.cell? ⟨w.heap.size,10,none⟩=some (.bool p.grouped)∧w'.cell? ⟨w.heap.size,11,none⟩=some (.slice A4 p.group.length c4)∧w'.cell? ⟨w.heap.size,12,none⟩=some (.slice A5 p.aggs.length c5)∧w'.cell? ⟨bL,oL+i*2,none⟩=some (.int .i64 x.k)∧w'.cell? ⟨bL,oL+i*2+1,none⟩=some (.slice Ax x.r.length cx)∧w'.cell? ⟨bR,oR+k*2,none⟩=some (.int .i64 y.k)∧w'.cell? ⟨bR,oR+k*2+1,none⟩=some (.slice Ay y.r.length cy))) (HSS.out _ (HOLDY.out _ hy0)) (fun hHeld=> ?_);refine tk 0 ?_;refine tk 1 ?_;refine tk 2 ?_;refine tk 3 ?_;refine tk 4 ?_;refine tk 5 ?_;refine tk 6 ?_;refine tk 7 ?_;refine tk 8 ?_;refine tk 9 ?_;refine tk 11 ?_;refine tc 10 ?_;intro K hK;go_simp;refine Calls.mono (by with_reducible exact HVER.out _ (HOLDY.out _ hy0)) ?_;rintro e w4 ⟨rfl,hb4⟩;have hyw4:=hy0.trans (hb4.mono hy0.size)
        go_wp2_with fail
        refine hK.out _ _ (HSS.out _ (HOLDY.out _ hyw4)) (fun hHeld10=> ?_);clear hK K;refine tk 12 ?_;refine tk 13 ?_;refine tk 14 ?_;refine tn 15 ?_;refine tn 16 ?_;refine tn 17 ?_;refine tn 18 ?_;refine tn 19 ?_;refine tn 20 ?_;refine tn 21 ?_;refine tn 22 ?_;refine tn 23 ?_;refine tn 24 ?_;refine tn 25 ?_;refine tn 26 ?_;refine tn 27 ?_;refine tn 28 ?_;refine tn 29 ?_;refine tk 30 ?_;refine td ?_
        go_wp2_with fail
        go_meet
        exact⟨rfl,hyw4⟩
       |false=>
        have hve':(ve==(k:Int))=false:=hve.symm;clear hve;refine tr (S:=(fun w'=>w'.cell? ⟨w.heap.size,0,none⟩=some (.int .i64 p.kind)∧w'.cell? ⟨w.heap.size,1,none⟩=some (.int .i64 p.mode)∧w'.cell? ⟨w.heap.size,2,none⟩=some (.int .i64 p.low)∧w'.cell? ⟨w.heap.size,3,none⟩=some (.int .i64 p.high)∧w'.cell? ⟨w.heap.size,4,none⟩=some (.int .i64 p.size)∧w'.cell? ⟨w.heap.size,5,none⟩=some (.int .i64 p.limit)∧w'.cell? ⟨w.heap.size,6,none⟩=some (.slice A0 p.left.length c0)∧w'.cell? ⟨w.heap.size,7,none⟩=some (.slice A1 p.right.length c1)∧w'.cell? ⟨w.heap.size,8,none⟩=some (.slice A2 p.lkeys.length c2)∧w'.cell? ⟨w.heap.size,9,none⟩=some (.slice A3 p.rkeys.length c3)∧w'.cell? ⟨w.heap.size,10,none⟩=some (.bool p.grouped)∧w'.cell? ⟨w.heap.size,11,none⟩=some (.slice A4 p.group.length c4)∧w'.cell? ⟨w.heap.size,12,none⟩=some (.slice A5 p.aggs.length c5)∧w'.cell? ⟨bL,oL+i*2,none⟩=some (.int .i64 x.k)∧w'.cell? ⟨bL,oL+i*2+1,none⟩=some (.slice Ax x.r.length cx)∧w'.cell? ⟨bR,oR+k*2,none⟩=some (.int .i64 y.k)∧w'.cell? ⟨bR,oR+k*2+1,none⟩=some (.slice Ay y.r.length cy))) (HSS.out _ (HOLDY.out _ hy0)) (fun hHeld=> ?_);refine tk 0 ?_;refine tk 1 ?_;refine tk 2 ?_;refine tk 3 ?_;refine tk 4 ?_;refine tk 5 ?_;refine tk 6 ?_;refine tk 7 ?_;refine tk 8 ?_;refine tk 9 ?_;refine tk 11 ?_;refine tc 10 ?_;intro K hK;go_simp;refine Calls.mono (by with_reducible exact HVER.out _ (HOLDY.out _ hy0)) ?_;rintro e w4 ⟨rfl,hb4⟩;have hyw4:=hy0.trans (hb4.mono hy0.size)
        go_wp2_with fail
        refine hK.out _ _ (HSS.out _ (HOLDY.out _ hyw4)) (fun hHeld10=> ?_);clear hK K;refine tk 12 ?_;refine tk 13 ?_;refine tk 14 ?_;refine tk 15 ?_;refine tk 16 ?_;refine tk 17 ?_;refine tk 18 ?_;refine tn 19 ?_;refine tn 20 ?_;refine tn 21 ?_;refine tn 22 ?_;refine tn 23 ?_;refine tn 24 ?_;refine tn 25 ?_;refine tn 26 ?_;refine tn 27 ?_;refine tn 28 ?_;refine tk 29 ?_;refine tk 30 ?_;refine td ?_
        go_wp2_with fail
        go_meet
        exact⟨rfl,hyw4⟩
      ·have kb:=beqF hk3
       have kn:=bneT hk3;have hpe:=HWP.out hk3;rw[HQE.out]at hpe;have HPAI:=Lib.hid (fun(W:World) (hb:Below w.heap.size w W∧Below W1.heap.size W1 W)=>HPX.out W hb.1 hk3);simp only[HRA.out,HTA.out]at hpe;rw[←hpe]at HPAI;clear hpe hk3;refine tr (S:=(fun w'=>w'.cell? ⟨w.heap.size,0,none⟩=some (.int .i64 p.kind)∧w'.cell? ⟨w.heap.size,1,none⟩=some (.int .i64 p.mode)∧w'.cell? ⟨w.heap.size,2,none⟩=some (.int .i64 p.low)∧w'.cell? ⟨w.heap.size,3,none⟩=some (.int .i64 p.high)∧w'.cell? ⟨w.heap.size,4,none⟩=some (.int .i64 p.size)∧w'.cell? ⟨w.heap.size,5,none⟩=some (.int .i64 p.limit)∧w'.cell? ⟨w.heap.size,6,none⟩=some (.slice A0 p.left.length c0)∧w'.cell? ⟨w.heap.size,7,none⟩=some (.slice A1 p.right.length c1)∧w'.cell? ⟨w.heap.size,8,none⟩=some (.slice A2 p.lkeys.length c2)∧w'.cell? ⟨w.heap.size,9,none⟩=some (.slice A3 p.rkeys.length c3)∧w'.cell? ⟨w.heap.size,10,none⟩=some (.bool p.grouped)∧w'.cell? ⟨w.heap.size,11,none⟩=some (.slice A4 p.group.length c4)∧w'.cell? ⟨w.heap.size,12,none⟩=some (.slice A5 p.aggs.length c5)∧w'.cell? ⟨bL,oL+i*2,none⟩=some (.int .i64 x.k)∧w'.cell? ⟨bL,oL+i*2+1,none⟩=some (.slice Ax x.r.length cx)∧w'.cell? ⟨bR,oR+k*2,none⟩=some (.int .i64 y.k)∧w'.cell? ⟨bR,oR+k*2+1,none⟩=some (.slice Ay y.r.length cy))) (HSS.out _ (HOLDY.out _ hy0)) (fun hHeld=> ?_);refine tk 0 ?_;refine tk 1 ?_;refine tk 2 ?_;refine tk 3 ?_;refine tn 4 ?_;refine tn 5 ?_;refine tn 6 ?_;refine tn 7 ?_;refine tn 8 ?_;refine tn 9 ?_;refine tn 10 ?_;refine tn 11 ?_;refine tn 12 ?_;refine tk 13 ?_;refine tk 14 ?_;refine tk 15 ?_;refine tk 16 ?_;refine tk 17 ?_;refine tk 18 ?_;refine tk 19 ?_;refine tk 20 ?_;refine tk 21 ?_;refine tk 22 ?_;refine tk 23 ?_;refine tk 24 ?_;refine tk 25 ?_;refine tk 26 ?_;refine tk 27 ?_;refine tc 28 ?_;intro K hK;go_simp;refine Calls.mono (by with_reducible exact HPAI.out _ (HOLDY.out _ hy0)) ?_;rintro e w4 ⟨rfl,hb4⟩;have hyw4:=hy0.trans (hb4.mono hy0.size)
       go_wp2_with fail
       refine hK.out _ _ (HSS.out _ (HOLDY.out _ hyw4)) (fun hHeld28=> ?_);clear hK K;refine tk 29 ?_;refine tk 30 ?_;refine td ?_
       go_wp2_with fail
       go_meet
       exact⟨rfl,hyw4⟩
     case rest=>
      obtain⟨rfl,hbx⟩:=hcut;obtain⟨wx,hwx⟩: ∃V,V=wc:=⟨_,rfl⟩;subst hwx;have HTX:=Lib.hid (HT.out.trans (turned_below hbx));have HOX:=Lib.hid (HO.out.below hbx);have HKX:=Lib.hid (HKc.out.below hbx);have HBRX:Hid (BRow wx ga (metB p (ac R) ((ac L).take i) (withN p (ac R) (x.k,x.r) k))):=Lib.hid (Blk.below HBR.out hbx);have hbwx:=(HOLD.out wx HTX.out).1;clear HO HKc HBR HT hbr hyr hy0 HPX HWP HSS HOLDY hbx;cases q with
      |false=>
       have HNE:Hid (withN p (ac R) (x.k,x.r) (k+1)=withN p (ac R) (x.k,x.r) k):=Lib.hid (by rw[HNS.out];simp)
       go_wp2_with fail
       go_roundw
       case rel=>exact⟨k+1,l2,vl2,by omega,by go_num,by rw[HNE.out],HOX,HFB,HKX,by rw[HNE.out];exact HBRX,by rw[HNE.out];exact HVR,HTX⟩
       case measure=>simp[intOf];omega
      |true=>
       have HNE:Hid (withN p (ac R) (x.k,x.r) (k+1)=withN p (ac R) (x.k,x.r) k++[(k:Int)]):=Lib.hid (by rw[HNS.out];simp);have HBO:=Lib.hid (both_any (.slice Ax x.r.length cx) (.slice Ay y.r.length cy) x.r y.r wx.drew (HSx.out _ hbwx.drew) (HSy.out _ hbwx.drew) (by have:=HXLx.out;omega) (by have:=HXLy.out;omega));have hcell:=And.intro (HCx.out wx.drew hbwx.drew).2 (HCy.out wx.drew hbwx.drew).2;have hszx:wB.heap.size≤wx.heap.size:=HTX.out.size
       have hrl:(((ac L).take i).flatMap (pairsOf p (ac R))++(withN p (ac R) (x.k,x.r) k).map (fun n=>x.r++rowAt (ac R) n.toNat)).length<4096:=by
        have h1:=HRW0.out;have h2:=HNL.out;rw[List.length_append,List.length_map];omega
       go_upto_region 12 with fail
       go_region_held3 (fun w'=>w'.cell? ⟨bL,oL+i*2+1,none⟩=some (.slice Ax x.r.length cx)∧w'.cell? ⟨bR,oR+k*2+1,none⟩=some (.slice Ay y.r.length cy))
        (first|exact hcell|exact hcell8|exact hcell5|go_keep)
        (first
         |(go_at_call 20;refine Calls.mono (by with_reducible exact HBO.out) ?_;rintro e w5 ⟨v5,rfl,ho5,hb5⟩
           have HT5:=Lib.hid ((HTX.out.trans (turned_drew _ _)).trans (turned_below hb5));have hcell5:=And.intro (HCx.out w5 (HOLD.out w5 HT5.out).1).2 (HCy.out w5 (HOLD.out w5 HT5.out).1).2;have HPUT:=Lib.hid (rput_any c wB.heap.size v5 vl2 (x.r++y.r) l2 _ w5 (HKX.out.drew.below hb5) HCB.out.1 (Nat.le_trans hszx hb5.size) (HOX.out.drew.below hb5) HFB.out HVR.out hrl (own_le ho5 hszx) (fun j hj e=>by have h1:=own_ge ho5 j hj;have h2:=own_lt HOX.out.own j e;have h3:wx.drew.heap.size=wx.heap.size:=rfl;omega) (app_good HGDx.out HGDy.out (by have h1:=HXLx.out;have h2:=HXLy.out;omega))))
         |(go_at_call 45;refine Calls.mono (by with_reducible exact HPUT.out) ?_;rintro e w8 ⟨rfl,⟨vl3,hK3,⟨l3,hO3,hf3,hv3⟩,hvo⟩,hT3⟩
           have HT8:=Lib.hid (show Turned (fun b=>b=c∨b=ga) wB w8 from HT5.out.transN hT3 (fun j hj e=>by
            rcases e with e|e
            ·exact .inl e
            ·have h2:=own_ge HOX.out.own j e
             omega))
           have hcell8:=And.intro (HCx.out w8 (HOLD.out w8 HT8.out).1).2 (HCy.out w8 (HOLD.out w8 HT8.out).1).2))
       all_goals
        have HBR8:Hid (BRow w8 ga (metB p (ac R) ((ac L).take i) (withN p (ac R) (x.k,x.r) k))):=Lib.hid (blk_turned (Blk.below (Blk.drew HBRX.out) hb5) hT3 (fun e=>by
         have h1:=HCB.out;rcases e with e|e
         ·have e:ga=c:=e;omega
         ·have:=own_ge HOX.out.own ga e;omega))
        obtain⟨b0,hb0⟩: ∃b,(metB p (ac R) ((ac L).take i) (withN p (ac R) (x.k,x.r) k))[k]?=some b:=⟨_,List.getElem?_eq_getElem (by rw[List.length_map,alB_len,ac_lenC];exact hlk)⟩;have da:=HBR8.out.cell hb0;have fa:w8.frozen? ⟨ga,k,none⟩=false:=Blk.free HBR8.out k
        have HBR9:Hid (BRow (w8.setCell ⟨ga,k,none⟩ (.bool true)) ga (metB p (ac R) ((ac L).take i) (withN p (ac R) (x.k,x.r) (k+1)))):=Lib.hid (by
         have h:=HBR8.out.set k true
         have e:(metB p (ac R) ((ac L).take i) (withN p (ac R) (x.k,x.r) k)).set k true=metB p (ac R) ((ac L).take i) (withN p (ac R) (x.k,x.r) (k+1)):=by
          unfold metB;rw[HNE.out,alB_put,List.map_set];rfl
         rw[e]at h;exact h)
        have HO9:Hid (OwnV (w8.setCell ⟨ga,k,none⟩ (.bool true)) wB.heap.size vl3 l3):=Lib.hid ⟨own_set hO3.own (fun j hj e=>by have h1:=own_ge hO3.own j hj;have h2:=HCB.out;have e:j=ga:=e;omega) _,fun z hz=>sl_set (hO3.rows z hz) (fun _ j hj e=>by have h1:=hf3 z hz j hj;have h2:=HCB.out;have e:j=ga:=e;omega) _,fun z hz j hj=>by rw[World.size_setCell];exact hO3.far z hz j hj⟩;have HF9:=Lib.hid hf3;have HK9:=Lib.hid (blk_turned hK3 (turned_set w8 ⟨ga,k,none⟩ (.bool true)) (fun e=>by have e:c=ga:=e;have:=HCB.out;omega))
        have HV9:Hid (VR (((ac L).take i).flatMap (pairsOf p (ac R))++(withN p (ac R) (x.k,x.r) (k+1)).map (fun n=>x.r++rowAt (ac R) n.toNat)) (av l3)):=Lib.hid (by
         rw[HNE.out,List.map_append,←List.append_assoc];show VR (_++[x.r++rowAt (ac R) (k:Int).toNat]) _;rw[Int.toNat_natCast,HRA.out];exact hv3)
        have HT9:=Lib.hid (HT8.out.trans ((turned_set w8 ⟨ga,k,none⟩ (.bool true)).imp (fun j _ e=>(.inr e:j=c∨j=ga))));clear hK3 hO3 hf3 hv3 hvo hT3 hb0 hcell hcell8 hcell5 ho5 hb5 hrl
        go_wp2_with fail
        go_roundw
        case rel=>exact⟨k+1,l3,vl3,by omega,by go_num,by rw[HNE.out];simp,HO9,HF9,HK9,HBR9,HV9,HT9⟩
        case measure=>simp[intOf];omega
    ·obtain rfl:k=R.length:=by omega
     have hw:withN p (ac R) (x.k,x.r) R.length=Wx:=by rw[←ac_lenC R,withN_all,HWX.out]
     rw[hw]at HBR HVR⊢;obtain⟨ae,hae⟩: ∃b,Wx.isEmpty=b:=⟨_,rfl⟩;rw[hae]
     have HBN:Hid (BRow wr2 ga (metB p (ac R) ((ac L).take (i+1)) [])):=Lib.hid (by
      have e:metB p (ac R) ((ac L).take (i+1)) []=metB p (ac R) ((ac L).take i) Wx:=by unfold metB;rw[←alB_next HXAC.out,HWX.out]
      rw[e];exact HBR.out)
     have HFS:Hid (((ac L).take (i+1)).flatMap (pairsOf p (ac R))=(((ac L).take i).flatMap (pairsOf p (ac R))++Wx.map (fun n=>x.r++rowAt (ac R) n.toNat))++(if ae&&keepsB p 1 then[x.r++nullsR p.right.length]else[])):=Lib.hid (by rw[flat_step HXAC.out,pairs_parts,HWX.out,hae,List.append_assoc]);have HWL:Hid (Wx.length≤R.length+1):=Lib.hid (by rw[←HWX.out];have h1:=withI_len p (ac R) (x.k,x.r);rw[ac_lenC]at h1;exact h1);have HKLX:=Lib.hid (HKL.out wr2 hbr);obtain⟨z0,z1,z2,z3,z4,z5,z6,z7,z8,z9,z10,z11,z12⟩:=pl_cells (HK0.out.below hyr);clear hlk hk hw HBR hae
     go_upto_region 15 with fail
     go_cut[81]from 18 to 93 (fun cv wx=> ∃Q:Bool,cv= .bool Q∧Hid (Q=(ae&&keepsB p 1))∧Below wr2.heap.size wr2 wx)
     case first=>
      cases ae with
      |false=>
       go_wp2
       go_meet
       exact⟨_,rfl,Lib.hid rfl,Below.refl _ _⟩
      |true=>
       go_wp2_with fail
       refine Calls.mono (by with_reducible exact HKLX.out) ?_;rintro e w6 ⟨rfl,hb6⟩;go_wp2
       go_meet
       exact⟨_,rfl,Lib.hid (by rw[Bool.true_and]),hb6⟩
     case rest=>
      obtain⟨Q,rfl,HQ,hbx⟩:=hcut;obtain⟨wx,hwx⟩: ∃V,V=wc:=⟨_,rfl⟩;subst hwx;have HTX:=Lib.hid (HT.out.trans (turned_below hbx));have HOX:=Lib.hid (HO.out.below hbx);have HKX:=Lib.hid (HKc.out.below hbx);have HBRX:Hid (BRow wx ga (metB p (ac R) ((ac L).take (i+1)) [])):=Lib.hid (Blk.below HBN.out hbx);have hbwx:=(HOLD.out wx HTX.out).1;have hywx:=(HOLD.out wx HTX.out).2;clear HO HKc HBN HT hbr hyr hbx z0 z1 z2 z3 z4 z5 z6 z7 z8 z9 z10 z11 z12 HKLX;cases Q with
      |false=>
       have HVK:Hid (VR (((ac L).take (i+1)).flatMap (pairsOf p (ac R))) (av l2)):=Lib.hid (by rw[HFS.out,←HQ.out,if_neg (by simp),List.append_nil];exact HVR.out)
       go_wp2_with fail
       go_roundw
       case rel=>exact⟨i+1,l2,vl2,by omega,by go_num,HOX,HFB,HKX,HBRX,HVK,HTX⟩
       case measure=>simp[intOf];omega
      |true=>
       have HFT:Hid (((ac L).take (i+1)).flatMap (pairsOf p (ac R))=(((ac L).take i).flatMap (pairsOf p (ac R))++Wx.map (fun n=>x.r++rowAt (ac R) n.toNat))++[x.r++nullsR p.right.length]):=Lib.hid (by rw[HFS.out,←HQ.out,if_pos rfl]);have hp4:p.right.length≤4:=(counts_short (check_ok HG.out.plan).2.2.1).r2;have HNU:=Lib.hid (rnulls_any p.right.length wx.drew (by omega));have HP4:=Lib.hid hp4;have hcell:=And.intro (HCx.out wx.drew hbwx.drew).2 ((HK0.out.below hywx).drew.cell 7 _ rfl);have hszx:wB.heap.size≤wx.heap.size:=HTX.out.size
       have hrl:(((ac L).take i).flatMap (pairsOf p (ac R))++Wx.map (fun n=>x.r++rowAt (ac R) n.toNat)).length<4096:=by
        have h1:=HRW0.out;have h2:=HWL.out;rw[List.length_append,List.length_map];omega
       clear hp4
       go_upto_region 16 with fail
       go_region_held3 (fun w'=>w'.cell? ⟨bL,oL+i*2+1,none⟩=some (.slice Ax x.r.length cx)∧w'.cell? ⟨w.heap.size,7,none⟩=some (.slice A1 p.right.length c1))
        (first|exact hcell|exact hcell8|exact hcell5|exact hcell4|go_keep)
        (first
         |(go_at_call 50;refine Calls.mono (by with_reducible exact HNU.out) ?_;rintro e w4 ⟨v4,rfl,ho4,hb4⟩
           have HT4:=Lib.hid ((HTX.out.trans (turned_drew _ _)).trans (turned_below hb4));have hcell4:=And.intro (HCx.out w4 (HOLD.out w4 HT4.out).1).2 ((HK0.out.below (HOLD.out w4 HT4.out).2).cell 7 _ rfl);have HBO:=Lib.hid (both_any (.slice Ax x.r.length cx) v4 x.r (nullsR p.right.length) w4 (HSx.out _ (HOLD.out w4 HT4.out).1) (Sl.of_own ho4) (by have:=HXLx.out;omega) (by have:=HP4.out;rw[nulls_len];omega)))
         |(go_at_call 20;refine Calls.mono (by with_reducible exact HBO.out) ?_;rintro e w5 ⟨v5,rfl,ho5,hb5⟩
           have HT5:=Lib.hid (HT4.out.trans (turned_below hb5));have hcell5:=And.intro (HCx.out w5 (HOLD.out w5 HT5.out).1).2 ((HK0.out.below (HOLD.out w5 HT5.out).2).cell 7 _ rfl);have HPUT:=Lib.hid (rput_any c wB.heap.size v5 vl2 (x.r++nullsR p.right.length) l2 _ w5 ((HKX.out.drew.below hb4).below hb5) HCB.out.1 (Nat.le_trans (Nat.le_trans hszx hb4.size) hb5.size) ((HOX.out.drew.below hb4).below hb5) HFB.out HVR.out hrl (own_le ho5 (Nat.le_trans hszx hb4.size)) (fun j hj e=>by have h1:=own_ge ho5 j hj;have h2:=own_lt HOX.out.own j e;have h3:wx.drew.heap.size=wx.heap.size:=rfl;have h4:=hb4.size;omega) (app_good HGDx.out (nulls_good (by have:=HP4.out;omega)) (by have h1:=HXLx.out;have h2:=HP4.out;rw[nulls_len];omega))))
         |(go_at_call 45;refine Calls.mono (by with_reducible exact HPUT.out) ?_;rintro e w8 ⟨rfl,⟨vl3,hK3,⟨l3,hO3,hf3,hv3⟩,hvo⟩,hT3⟩
           have HT8:=Lib.hid (show Turned (fun b=>b=c∨b=ga) wB w8 from HT5.out.transN hT3 (fun j hj e=>by
            rcases e with e|e
            ·exact .inl e
            ·have h2:=own_ge HOX.out.own j e
             omega))
           have hcell8:=And.intro (HCx.out w8 (HOLD.out w8 HT8.out).1).2 ((HK0.out.below (HOLD.out w8 HT8.out).2).cell 7 _ rfl)))
       all_goals
        have HBR8:Hid (BRow w8 ga (metB p (ac R) ((ac L).take (i+1)) [])):=Lib.hid (blk_turned (Blk.below (Blk.below (Blk.drew HBRX.out) hb4) hb5) hT3 (fun e=>by
         have h1:=HCB.out;rcases e with e|e
         ·have e:ga=c:=e;omega
         ·have:=own_ge HOX.out.own ga e;omega))
        have HO9:=Lib.hid hO3;have HF9:=Lib.hid hf3;have HK9:=Lib.hid hK3;have HV9:Hid (VR (((ac L).take (i+1)).flatMap (pairsOf p (ac R))) (av l3)):=Lib.hid (by rw[HFT.out];exact hv3);clear hK3 hO3 hf3 hv3 hvo hT3 hcell hcell8 hcell5 hcell4 ho5 hb5 ho4 hb4 hrl
        go_wp2_with fail
        go_roundw
        case rel=>exact⟨i+1,l3,vl3,by omega,by go_num,HO9,HF9,HK9,HBR8,HV9,HT8⟩
        case measure=>simp[intOf];omega
  ·obtain rfl:i=L.length:=by omega
   have htk:(ac L).take L.length=ac L:=List.take_of_length_le (by rw[ac_lenC];exact Nat.le_refl _);rw[htk]at HBR HVR;have HVR4:Hid (VR ((ac L).flatMap (pairsOf p (ac R))++(List.range 0).flatMap (lateOf p (ac L) (ac R))) (av l)):=Lib.hid (by simpa using HVR.out)
   have HRL:Hid (((ac L).flatMap (pairsOf p (ac R))).length≤3721):=Lib.hid (by
    have h1:=flat_len_le (f:=pairsOf p (ac R)) (ac L) fun y _=>pairs_len p (ac R) y;rw[ac_lenC,ac_lenC]at h1;have h2:=mul_few hfew;omega)
   clear hlt hi HVR htk
   go_wp2_with fail
   go_loopw[13] (fun kv wr4=> ∃(k:Nat) (l4:List Cnt) (vl4:Value),k≤R.length∧kv= .int .i64 k∧Hid (OwnV wr4 wB.heap.size vl4 l4)∧Hid (∀x∈l4,∀k,x.v.ownBlock=some k→wB.heap.size≤k)∧Hid (Blk wr4 c 27 #[vl4])∧Hid (BRow wr4 ga (metB p (ac R) (ac L) []))∧Hid (VR ((ac L).flatMap (pairsOf p (ac R))++(List.range k).flatMap (lateOf p (ac L) (ac R))) (av l4))∧Hid (Turned (fun b=>b=c∨b=ga) wB wr4)) (fun kv _=>R.length-(intOf kv).toNat)
   case atStart=>exact⟨0,l,vl,by omega,rfl,HO,HFB,HKc,HBR,HVR4,HT⟩
   case round=>
    clear HO HFB HKc HBR HVR4 HT;rename World=>wr4
    obtain⟨k,l4,vl4,hk,rfl,HO,HFB,HKc,HBR,HVR,HT⟩:=hrel;have hbr:=(HOLD.out wr4 HT.out).1;have hyr:=(HOLD.out wr4 HT.out).2;by_cases hlk:k<R.length
    ·have hxy:=List.getElem?_eq_getElem (l:=R) hlk
     generalize R[k]=y at hxy;have hxmy:=List.mem_of_getElem? hxy;obtain⟨Ay,cy,exy,-⟩:=id (HR.out.rows y hxmy);obtain⟨bR,oR,hAR,-,hcby⟩:=chn_at HR.out.sl rfl hxy;subst hAR;have HSy:Hid (∀W,Below w.heap.size w W→Sl W (.slice Ay y.r.length cy) y.r.length (rowCells y.r)):=Lib.hid (fun W hb=>by rw[←exy];exact(HR.out.rows y hxmy).below hb);have HCy:Hid (∀W,Below w.heap.size w W→W.cell? ⟨bR,oR+k*2,none⟩=some (.int .i64 y.k)∧W.cell? ⟨bR,oR+k*2+1,none⟩=some (.slice Ay y.r.length cy)):=Lib.hid (fun W hb=>by rw[←exy];exact hcby W hb);have HXLy:Hid (y.r.length≤4):=Lib.hid (rowE_fine HG.out.plan (HRE.out.2 y hxmy).1).len;have HGDy:Hid (GoodR y.r):=Lib.hid (row_goodE HG.out.plan (HRE.out.2 y hxmy).1 (HFR.out y hxmy).nums);have HRA:=Lib.hid (rowAt_ac hxy);have HBA:=alB_at (p:=p) (L:=ac L) (R:=ac R) (i:=k) (by rw[ac_lenC];exact hlk);obtain⟨al,hal⟩: ∃y,aloneB2 p (ac L) (ac R) k=y:=⟨_,rfl⟩;rw[hal]at HBA;have hmt:(metB p (ac R) (ac L) [])[k]?=some (!al):=by unfold metB;rw[List.getElem?_map,HBA];rfl
     have da:=HBR.out.cell hmt
     have HLS:Hid ((List.range (k+1)).flatMap (lateOf p (ac L) (ac R))=(List.range k).flatMap (lateOf p (ac L) (ac R))++(if al&&keepsB p 2 then[nullsR p.left.length++y.r]else[])):=Lib.hid (by
      rw[List.range_succ,List.flatMap_append,List.flatMap_cons,List.flatMap_nil,List.append_nil];show _++lateOf p (ac L) (ac R) k=_;unfold lateOf;rw[hal,HRA.out])
     have HKRX:=Lib.hid (HKR.out wr4 hbr)
     have HRW:Hid (((ac L).flatMap (pairsOf p (ac R))++(List.range k).flatMap (lateOf p (ac L) (ac R))).length<4096):=Lib.hid (by
      have h2:=HRL.out;have h3:=flat_len_le (f:=lateOf p (ac L) (ac R)) (n:=1) (List.range k) fun i _=>by unfold lateOf;split<;>simp
      rw[List.length_range]at h3;rw[List.length_append];omega)
     obtain⟨z0,z1,z2,z3,z4,z5,z6,z7,z8,z9,z10,z11,z12⟩:=pl_cells (HK0.out.below hyr);have k0:(0:Int)≤(k:Int):=by omega
     have k1:(k:Int)<(R.length:Int):=by omega
     clear hxy hxmy exy hcby HBA hal hmt
     go_upto_region 20 with fail
     go_cut[108]from 94 to 120 (fun cv wx=> ∃Q:Bool,cv= .bool Q∧Hid (Q=(al&&keepsB p 2))∧Below wr4.heap.size wr4 wx)
     case first=>
      cases al with
      |false=>
       go_wp2
       go_meet
       exact⟨_,rfl,Lib.hid rfl,Below.refl _ _⟩
      |true=>
       go_wp2_with fail
       refine Calls.mono (by with_reducible exact HKRX.out) ?_;rintro e w6 ⟨rfl,hb6⟩;go_wp2
       go_meet
       exact⟨_,rfl,Lib.hid (by rw[Bool.true_and]),hb6⟩
     case rest=>
      obtain⟨Q,rfl,HQ,hbx⟩:=hcut;obtain⟨wx,hwx⟩: ∃V,V=wc:=⟨_,rfl⟩;subst hwx;have HTX:=Lib.hid (HT.out.trans (turned_below hbx));have HOX:=Lib.hid (HO.out.below hbx);have HKX:=Lib.hid (HKc.out.below hbx);have HBRX:Hid (BRow wx ga (metB p (ac R) (ac L) [])):=Lib.hid (Blk.below HBR.out hbx);have hbwx:=(HOLD.out wx HTX.out).1;have hywx:=(HOLD.out wx HTX.out).2;clear HO HKc HBR HT hbr hyr hbx z0 z1 z2 z3 z4 z5 z6 z7 z8 z9 z10 z11 z12 HKRX da;cases Q with
      |false=>
       have HVK:Hid (VR ((ac L).flatMap (pairsOf p (ac R))++(List.range (k+1)).flatMap (lateOf p (ac L) (ac R))) (av l4)):=Lib.hid (by rw[HLS.out,←HQ.out,if_neg (by simp),List.append_nil];exact HVR.out)
       go_wp2_with fail
       go_roundw
       case rel=>exact⟨k+1,l4,vl4,by omega,by go_num,HOX,HFB,HKX,HBRX,HVK,HTX⟩
       case measure=>simp[intOf];omega
      |true=>
       have HFT:Hid ((List.range (k+1)).flatMap (lateOf p (ac L) (ac R))=(List.range k).flatMap (lateOf p (ac L) (ac R))++[nullsR p.left.length++y.r]):=Lib.hid (by rw[HLS.out,←HQ.out,if_pos rfl]);have hp4:p.left.length≤4:=(counts_short (check_ok HG.out.plan).2.2.1).l2;have HNU:=Lib.hid (rnulls_any p.left.length wx.drew (by omega));have HP4:=Lib.hid hp4;have hcell:=And.intro (HCy.out wx.drew hbwx.drew).2 ((HK0.out.below hywx).drew.cell 6 _ rfl);have hszx:wB.heap.size≤wx.heap.size:=HTX.out.size;clear hp4
       go_upto_region 21 with fail
       go_region_held3 (fun w'=>w'.cell? ⟨bR,oR+k*2+1,none⟩=some (.slice Ay y.r.length cy)∧w'.cell? ⟨w.heap.size,6,none⟩=some (.slice A0 p.left.length c0))
        (first|exact hcell|exact hcell8|exact hcell5|exact hcell4|go_keep)
        (first
         |(go_at_call 50;refine Calls.mono (by with_reducible exact HNU.out) ?_;rintro e w4 ⟨v4,rfl,ho4,hb4⟩
           have HT4:=Lib.hid ((HTX.out.trans (turned_drew _ _)).trans (turned_below hb4));have hcell4:=And.intro (HCy.out w4 (HOLD.out w4 HT4.out).1).2 ((HK0.out.below (HOLD.out w4 HT4.out).2).cell 6 _ rfl);have HBO:=Lib.hid (both_any v4 (.slice Ay y.r.length cy) (nullsR p.left.length) y.r w4 (Sl.of_own ho4) (HSy.out _ (HOLD.out w4 HT4.out).1) (by have:=HP4.out;rw[nulls_len];omega) (by have:=HXLy.out;omega)))
         |(go_at_call 20;refine Calls.mono (by with_reducible exact HBO.out) ?_;rintro e w5 ⟨v5,rfl,ho5,hb5⟩
           have HT5:=Lib.hid (HT4.out.trans (turned_below hb5));have hcell5:=And.intro (HCy.out w5 (HOLD.out w5 HT5.out).1).2 ((HK0.out.below (HOLD.out w5 HT5.out).2).cell 6 _ rfl);have HPUT:=Lib.hid (rput_any c wB.heap.size v5 vl4 (nullsR p.left.length++y.r) l4 _ w5 ((HKX.out.drew.below hb4).below hb5) HCB.out.1 (Nat.le_trans (Nat.le_trans hszx hb4.size) hb5.size) ((HOX.out.drew.below hb4).below hb5) HFB.out HVR.out HRW.out (own_le ho5 (Nat.le_trans hszx hb4.size)) (fun j hj e=>by have h1:=own_ge ho5 j hj;have h2:=own_lt HOX.out.own j e;have h3:wx.drew.heap.size=wx.heap.size:=rfl;have h4:=hb4.size;omega) (app_good (nulls_good (by have:=HP4.out;omega)) HGDy.out (by have h1:=HXLy.out;have h2:=HP4.out;rw[nulls_len];omega))))
         |(go_at_call 45;refine Calls.mono (by with_reducible exact HPUT.out) ?_;rintro e w8 ⟨rfl,⟨vl3,hK3,⟨l3,hO3,hf3,hv3⟩,hvo⟩,hT3⟩
           have HT8:=Lib.hid (show Turned (fun b=>b=c∨b=ga) wB w8 from HT5.out.transN hT3 (fun j hj e=>by
            rcases e with e|e
            ·exact .inl e
            ·have h2:=own_ge HOX.out.own j e
             omega))
           have hcell8:=And.intro (HCy.out w8 (HOLD.out w8 HT8.out).1).2 ((HK0.out.below (HOLD.out w8 HT8.out).2).cell 6 _ rfl)))
       all_goals
        have HBR8:Hid (BRow w8 ga (metB p (ac R) (ac L) [])):=Lib.hid (blk_turned (Blk.below (Blk.below (Blk.drew HBRX.out) hb4) hb5) hT3 (fun e=>by
         have h1:=HCB.out;rcases e with e|e
         ·have e:ga=c:=e;omega
         ·have:=own_ge HOX.out.own ga e;omega))
        have HO9:=Lib.hid hO3;have HF9:=Lib.hid hf3;have HK9:=Lib.hid hK3;have HV9:Hid (VR ((ac L).flatMap (pairsOf p (ac R))++(List.range (k+1)).flatMap (lateOf p (ac L) (ac R))) (av l3)):=Lib.hid (by rw[HFT.out,←List.append_assoc];exact hv3);clear hK3 hO3 hf3 hv3 hvo hT3 hcell hcell8 hcell5 hcell4 ho5 hb5 ho4 hb4
        go_wp2_with fail
        go_roundw
        case rel=>exact⟨k+1,l3,vl3,by omega,by go_num,HO9,HF9,HK9,HBR8,HV9,HT8⟩
        case measure=>simp[intOf];omega
    ·obtain rfl:k=R.length:=by omega
     have HFIN:Hid (av l4=RR):=Lib.hid (by
      have h:=HVR.out;rw[show(ac L).flatMap (pairsOf p (ac R))++(List.range R.length).flatMap (lateOf p (ac L) (ac R))=joinL p (ac L) (ac R) by unfold joinL;rw[ac_lenC]]at h;rw[←HRR.out];exact h.done (by have:=joined_len (p:=p) HG.out.few;omega))
     have dc:=HKc.out.cell 0 _ rfl;obtain⟨A9,n9,c9,e9⟩: ∃A n c,vl4= .slice A n c:=by obtain⟨A,c,e,-⟩:=Sl.of_own HO.out.own;exact⟨A,_,c,e⟩
     subst e9;go_wp2;go_ret;exact⟨_,l4,rfl,HO.out.view,HFIN.out,hbr⟩
end Go.Proofs.YtjhbeecmdgglgaaGreatDoor
