/-Batches: check (what is wrong with what is joined). (Printed by genbat7.py.) -/
import Derived.Test.YtjhbeecmdgglgaaGreatDoorGrpX33
import Derived.Test.YtjhbeecmdgglgaaGreatDoorGrpX31
import Derived.Test.YtjhbeecmdgglgaaGreatDoorGrpX8
set_option linter.unusedSimpArgs false
set_option linter.unusedVariables false
namespace Go.Proofs.YtjhbeecmdgglgaaGreatDoor
open Go.RowKit Go.Maps
open tm (fitsB fits_any)
theorem bE_many {p:Pl}{L R:List Cg}(h0:checkP p=0)(h:120<L.length∨120<R.length∨120<L.length+R.length):batchE p L R=2:=by
 unfold batchE;rw[if_neg (fun e=>e h0),if_pos h]
theorem bE_range {p:Pl}{L R:List Cg}(h0:checkP p=0)(h1: ¬(120<L.length∨120<R.length∨120<L.length+R.length)){x:Cg}(hx:x∈L++R)(hf:fitsB x.1=false):batchE p L R=3:=by
 unfold batchE;rw[if_neg (fun e=>e h0),if_neg h1,if_pos (List.all_eq_false.2 ⟨x,hx,by simp[hf]⟩)]
theorem bE_rows {p:Pl}{L R:List Cg}(h0:checkP p=0)(h1: ¬(120<L.length∨120<R.length∨120<L.length+R.length))(hf: ∀x∈L++R,fitsB x.1=true):batchE p L R=if firstNZ (L.map fun x=>rowE p 1 x.2)≠0 then firstNZ (L.map fun x=>rowE p 1 x.2)else firstNZ (R.map fun x=>rowE p 2 x.2):=by
 unfold batchE;rw[if_neg (fun e=>e h0),if_neg h1,if_neg];rw[Bool.not_eq_false,List.all_eq_true];exact hf
theorem rows_hit {q:List Val→Int}{l:List Chn}{k:Nat}{x:Chn}{e:Int}(hx:l[k]?=some x)(hpre: ∀y∈l.take k,q y.r=0)(he:q x.r=e)(hne:e≠0):firstNZ ((ac l).map fun y=>q y.2)=e:=by
 have em:(ac l).map (fun y=>q y.2)=l.map fun y=>q y.r:=by unfold ac;rw[List.map_map];rfl
 rw[em];refine firstNZ_hit (k:=k) (fun y hy=> ?_) (by rw[List.getElem?_map,hx,←he];rfl) hne;rw[←List.map_take,List.mem_map]at hy;obtain⟨z,hz,rfl⟩:=hy;exact hpre z hz
theorem rows_zero {q:List Val→Int}{l:List Chn}(h: ∀y∈l,q y.r=0):firstNZ ((ac l).map fun y=>q y.2)=0:=by
 rw[firstNZ_zero];intro y hy;obtain⟨z,hz,rfl⟩:=List.mem_map.1 hy;unfold ac at hz;obtain⟨c,hc,rfl⟩:=List.mem_map.1 hz;exact h c hc
set_option maxHeartbeats 8000000 in
set_option maxRecDepth 10000 in
theorem bcheck_all (p:Pl)(vL vR:Value)(L R:List Chn)(w:World)(h:p.ok w)(hfit:p.fit)(hL:Chs w vL L)(hR:Chs w vR R)(hfl: ∀x∈L,Fine x.r)(hfr: ∀x∈R,Fine x.r):
 Calls Tryz.prog 33 #[.agg #[.int .i64 p.kind,.int .i64 p.mode,.int .i64 p.low,.int .i64 p.high,.int .i64 p.size,.int .i64 p.limit,p.vl,p.vr,p.vk,p.vq,.bool p.grouped,p.vg,p.va],vL,vR] w fun e w'=>e= .returned (.int .i64 (batchE p (ac L) (ac R)))∧Below w.heap.size w w':=by
 have HL:=Lib.hid hL;have HR:=Lib.hid hR;have HCK:=Lib.hid (fun W (hb:Below w.heap.size w W)=>check_any p W (h.below hb) hfit);have HRW1:=Lib.hid (fun(W:World) (hb:Below w.heap.size w W) (x:Chn) (hx:x∈L)=>row_any p 1 x.v x.r W (h.below hb) hfit ((hL.rows x hx).below hb) (hfl x hx).small);have HRW2:=Lib.hid (fun(W:World) (hb:Below w.heap.size w W) (x:Chn) (hx:x∈R)=>row_any p 2 x.v x.r W (h.below hb) hfit ((hR.rows x hx).below hb) (hfr x hx).small)
 have HSV:=Lib.hid (show ∀x∈L++R,∃A c,x.v= .slice A x.r.length c from fun x hx=>by
  rcases List.mem_append.1 hx with hx|hx
  ·obtain⟨A,c,e,-⟩:=hL.rows x hx;exact⟨A,c,e⟩
  ·obtain⟨A,c,e,-⟩:=hR.rows x hx;exact⟨A,c,e⟩)
 have HON:=Lib.hid (And.intro (chns_oneC hL.rows) (chns_oneC hR.rows));obtain⟨E,hE⟩: ∃y,batchE p (ac L) (ac R)=y:=⟨_,rfl⟩;rw[hE];have HEE:=Lib.hid hE.symm;have lac:(ac L).length=L.length∧(ac R).length=R.length:=⟨List.length_map _,List.length_map _⟩;have HAC:=Lib.hid lac;obtain⟨A0,c0,h0,n0,m0,-⟩:=id h.l;obtain⟨A1,c1,h1,n1,m1,-⟩:=id h.r;obtain⟨A2,c2,h2,n2,m2,-⟩:=id h.k;obtain⟨A3,c3,h3,n3,m3,-⟩:=id h.q;obtain⟨A4,c4,h4,n4,m4,-⟩:=id h.g;obtain⟨A5,c5,h5,n5,m5,-⟩:=id h.a;obtain⟨AL,cL,rfl,nL,mL,-⟩:=id hL.sl;obtain⟨AR,cR,rfl,nR,mR,-⟩:=id hR.sl;unfold maxLen at mL mR;rw[h0,h1,h2,h3,h4,h5]at HCK HRW1 HRW2⊢;have HB:=Lib.hid (below_alloc w (.cells #[.int .i64 p.kind,.int .i64 p.mode,.int .i64 p.low,.int .i64 p.high,.int .i64 p.size,.int .i64 p.limit,.slice A0 p.left.length c0,.slice A1 p.right.length c1,.slice A2 p.lkeys.length c2,.slice A3 p.rkeys.length c3,.bool p.grouped,.slice A4 p.group.length c4,.slice A5 p.aggs.length c5] 25));have HK0:=Lib.hid (Blk.new w 25 #[.int .i64 p.kind,.int .i64 p.mode,.int .i64 p.low,.int .i64 p.high,.int .i64 p.size,.int .i64 p.limit,.slice A0 p.left.length c0,.slice A1 p.right.length c1,.slice A2 p.lkeys.length c2,.slice A3 p.rkeys.length c3,.bool p.grouped,.slice A4 p.group.length c4,.slice A5 p.aggs.length c5]);obtain⟨W1,hW1⟩: ∃V,w.alloc (.cells #[.int .i64 p.kind,.int .i64 p.mode,.int .i64 p.low,.int .i64 p.high,.int .i64 p.size,.int .i64 p.limit,.slice A0 p.left.length c0,.slice A1 p.right.length c1,.slice A2 p.lkeys.length c2,.slice A3 p.rkeys.length c3,.bool p.grouped,.slice A4 p.group.length c4,.slice A5 p.aggs.length c5] 25)=V:=⟨_,rfl⟩;rw[hW1]at HB HK0;have hb1:=HB.out;have hyW:Below W1.heap.size W1 W1:=Below.refl _ _;obtain⟨z0,z1,z2,z3,z4,z5,z6,z7,z8,z9,z10,z11,z12⟩:=pl_cells HK0.out;obtain⟨E1,hE1⟩: ∃y,checkP p=y:=⟨_,rfl⟩;rw[hE1]at HCK;have HE1:=Lib.hid hE1;clear h h0 h1 h2 h3 h4 h5 n0 n1 n2 n3 n4 n5 m0 m1 m2 m3 m4 m5 hL hR hfl hfr hE lac hE1;go_enter Tryz.func33,Tryz.ntmps33
 go_wp2_with fail
 refine Calls.mono (by with_reducible exact HCK.out _ hb1) ?_;rintro e w2 ⟨rfl,hb2⟩;have hyr:=hb2;have hbr:=below_trans hb1 hb2;clear z0 z1 z2 z3 z4 z5 z6 z7 z8 z9 z10 z11 z12 hb2 hyW;by_cases hq1:E1=0
 case neg=>
  have q1:=bneT hq1;have HE:Hid (E=E1):=Lib.hid (by rw[HEE.out];unfold batchE;rw[HE1.out,if_pos hq1]);clear hq1;go_wp2;go_ret;exact⟨by rw[HE.out];rfl,hbr⟩
 have q1:=bneF hq1;have HZ0:Hid (checkP p=0):=Lib.hid (HE1.out.trans hq1);clear hq1;by_cases g1:120<L.length
 ·have g1':(120:Int)<(L.length:Int):=by omega
  have HE:Hid (E=2):=Lib.hid (by rw[HEE.out];exact bE_many HZ0.out (.inl (by rw[HAC.out.1];exact g1)));go_wp2;go_ret;exact⟨by rw[HE.out];rfl,hbr⟩
 have g1':decide ((120:Int)<(L.length:Int))=false:=decide_eq_false (by omega);have g1n:decide (120<L.length)=false:=decide_eq_false g1;by_cases g2:120<R.length
 ·have g2':(120:Int)<(R.length:Int):=by omega
  have HE:Hid (E=2):=Lib.hid (by rw[HEE.out];exact bE_many HZ0.out (.inr (.inl (by rw[HAC.out.2];exact g2))));go_wp2;go_ret;exact⟨by rw[HE.out];rfl,hbr⟩
 have g2':decide ((120:Int)<(R.length:Int))=false:=decide_eq_false (by omega);have g2n:decide (120<R.length)=false:=decide_eq_false g2;by_cases g3:120<L.length+R.length
 ·have g3':(120:Int)<(L.length:Int)+(R.length:Int):=by omega
  have HE:Hid (E=2):=Lib.hid (by rw[HEE.out];exact bE_many HZ0.out (.inr (.inr (by rw[HAC.out.1,HAC.out.2];exact g3))));go_wp2;go_ret;exact⟨by rw[HE.out];rfl,hbr⟩
 have g3':decide ((120:Int)<(L.length:Int)+(R.length:Int))=false:=decide_eq_false (by omega);have g3n:decide (120<L.length+R.length)=false:=decide_eq_false g3;have HFEW:Hid (¬(120<(ac L).length∨120<(ac R).length∨120<(ac L).length+(ac R).length)):=Lib.hid (by rw[HAC.out.1,HAC.out.2];omega);have hsum:L.length+R.length≤120:=by omega
 have hyA:=hyr.alloc hyr.size (.cells #[.slice AL L.length cL,.slice AR R.length cR] 26);have hbA:=below_trans hb1 hyA;have HTW:=Lib.hid (Sl.block (Blk.new w2 26 #[.slice AL L.length cL,.slice AR R.length cR]) 2 2 (Nat.le_refl _) (by decide));have HCAT:=Lib.hid (concat_anyS (.slice (some ⟨w2.heap.size,0,none⟩) 2 2) (.slice AL L.length cL) (.slice AR R.length cR) L R _ HTW.out (HL.out.sl.below hbA) (HR.out.sl.below hbA) HON.out (by omega));clear HTW g1 g2 g3
 go_wp2_with fail
 refine Calls.mono (by with_reducible exact HCAT.out) ?_;rintro e w3 ⟨vC,rfl,hoC,hb3⟩;have hy3:=hyA.trans (hb3.mono hyA.size);have HOC:=Lib.hid (Sl.of_own hoC);obtain⟨AC,cC,rfl,nC,mC,-⟩:=Sl.of_own hoC;unfold maxLen at mC;have hy33:Below w3.heap.size w3 w3:=Below.refl _ _;clear hoC hb3 g1' g2' g3' g1n g2n g3n HCAT hyA hbA hyr hbr;obtain⟨LR,hLR⟩: ∃y,L++R=y:=⟨_,rfl⟩;rw[hLR]at HOC HSV nC⊢;have HLR:=Lib.hid hLR;clear hLR
 go_wp2_with fail
 go_loopw[9,42] (fun _ iv wr=> ∃k:Nat,k≤LR.length∧iv= .int .i64 k∧Hid (∀x∈LR.take k,fitsB x.k=true)∧Below W1.heap.size W1 wr∧Below w3.heap.size w3 wr) (fun _ iv _=>LR.length-(intOf iv).toNat)
 case atStart=>exact⟨0,by omega,rfl,by simp[Hid],hy3,hy33⟩
 case round=>
  clear hy3 hy33;rename World=>wr
  obtain⟨k,hk,rfl,H,hyr,hy3r⟩:=hrel;have hbr:=below_trans HB.out hyr;by_cases hlt:k<LR.length
  ·have hx:=List.getElem?_eq_getElem (l:=LR) hlt
   generalize (LR)[k]=x at hx;have hxm:=List.mem_of_getElem? hx;obtain⟨Ax,cx,ex⟩:=HSV.out x hxm;obtain⟨xv,xr,xk⟩:=x;simp only at ex;subst ex;obtain⟨x,hxe⟩: ∃x,x=(⟨.slice Ax xr.length cx,xr,xk⟩:Chn):=⟨_,rfl⟩;have hxr:xr=x.r:=by rw[hxe]
   have hxk:xk=x.k:=by rw[hxe]
   have hxv:x.v= .slice Ax x.r.length cx:=by rw[hxe]
   rw[←hxe]at hx hxm;clear hxe;subst hxr hxk;obtain⟨bv,ov,hAv,-,hcb⟩:=chn_at HOC.out rfl hx;subst hAv;obtain⟨d0,d1⟩:=hcb _ hy3r;rw[hxv]at d1;have HXI:=Lib.hid hx;have HFT:=Lib.hid (fun W=>fits_any x.k W);have k0:(0:Int)≤(k:Int):=by omega
   have k1:(k:Int)<(LR.length:Int):=by omega
   have hyc:=hyr.alloc hyr.size (.cells #[.int .i64 x.k,.slice Ax x.r.length cx] 53);have hy3c:=hy3r.alloc hy3r.size (.cells #[.int .i64 x.k,.slice Ax x.r.length cx] 53);clear hx hcb hxm hxv hbr;cases hq:fitsB x.k with
   |true=>
    rw[hq]at HFT
    have HN:=Lib.hid (show ∀y∈LR.take (k+1),fitsB y.k=true from by
     have e:LR.take (k+1)=LR.take k++[x]:=by rw[List.take_add_one,HXI.out];rfl
     rw[e];intro y hy;rcases List.mem_append.1 hy with hy|hy
     ·exact H.out y hy
     ·rw[List.mem_singleton.1 hy];exact hq)
    clear hq
    go_wp2_with fail
    refine Calls.mono (by with_reducible exact HFT.out _) ?_;rintro e w6 ⟨rfl,rfl⟩
    go_wp2_with fail
    go_roundw
    case rel=>exact⟨k+1,by omega,by go_num,HN,hyc,hy3c⟩
    case measure=>simp[intOf];omega
   |false=>
    rw[hq]at HFT
    have HE:Hid (E=3):=Lib.hid (by
     rw[HEE.out];refine bE_range HZ0.out HFEW.out (x:=(x.k,x.r)) ?_ hq;have h1:x∈L++R:=by rw[HLR.out];exact List.mem_of_getElem? HXI.out
     unfold ac;rw[←List.map_append];exact List.mem_map.2 ⟨x,h1,rfl⟩)
    clear hq
    go_wp2_with fail
    refine Calls.mono (by with_reducible exact HFT.out _) ?_;rintro e w6 ⟨rfl,rfl⟩
    go_wp2_with fail
    go_ret;exact⟨by rw[HE.out];rfl,below_trans HB.out hyc⟩
  ·obtain rfl:k=LR.length:=by omega
   rw[List.take_length,←HLR.out]at H
   have HBE:Hid (E=if firstNZ ((ac L).map fun x=>rowE p 1 x.2)≠0 then firstNZ ((ac L).map fun x=>rowE p 1 x.2)else firstNZ ((ac R).map fun x=>rowE p 2 x.2)):=Lib.hid (by
    rw[HEE.out];refine bE_rows HZ0.out HFEW.out fun x hx=> ?_;unfold ac at hx;rw[←List.map_append]at hx;obtain⟨c,hc,rfl⟩:=List.mem_map.1 hx;exact H.out c hc)
   have HFN1:=Lib.hid (show ∀(k:Nat) (x:Chn),L[k]?=some x→(∀y∈L.take k,rowE p 1 y.r=0)→ ∀ {e:Int},rowE p 1 x.r=e→e≠0→E=e from fun k x hx hpre e he hne=>by
    have h1:=rows_hit (q:=rowE p 1) hx hpre he hne;rw[HBE.out,h1,if_pos hne])
   have HFN2:=Lib.hid (show ∀(k:Nat) (x:Chn),R[k]?=some x→(∀y∈R.take k,rowE p 2 y.r=0)→ ∀ {e:Int},rowE p 2 x.r=e→e≠0→(∀y∈L,rowE p 1 y.r=0)→E=e from fun k x hx hpre e he hne hz=>by
    have h1:=rows_hit (q:=rowE p 2) hx hpre he hne;rw[HBE.out,rows_zero (q:=rowE p 1) hz,if_neg (fun e=>e rfl),h1])
   have HFIN:Hid ((∀y∈L,rowE p 1 y.r=0)→(∀y∈R,rowE p 2 y.r=0)→E=0):=Lib.hid (fun z1 z2=>by
    rw[HBE.out,rows_zero (q:=rowE p 1) z1,if_neg (fun e=>e rfl),rows_zero (q:=rowE p 2) z2])
   have HSV:Hid (∀x∈L++R,∃A c,x.v= .slice A x.r.length c):=Lib.hid (by rw[HLR.out];exact HSV.out);clear H hy3r nC mC
   go_wp2_with fail
   go_loopw[11,12,53] (fun _ _ iv wr=> ∃k:Nat,k≤L.length∧iv= .int .i64 k∧Hid (∀x∈(L.take k),rowE p 1 x.r=0)∧Below W1.heap.size W1 wr) (fun _ _ iv _=>L.length-(intOf iv).toNat)
   case atStart=>exact⟨0,by omega,rfl,by simp[Hid],hyr⟩
   case round=>
    clear hbr hyr hk hlt;rename World=>wr1
    obtain⟨k,hk,rfl,H,hyr⟩:=hrel;have hbr:=below_trans HB.out hyr;by_cases hlt:k<L.length
    ·have hx:=List.getElem?_eq_getElem (l:=L) hlt
     generalize (L)[k]=x at hx;have hxm:=List.mem_of_getElem? hx;obtain⟨Ax,cx,ex⟩:=HSV.out x (List.mem_append_left _ hxm);obtain⟨xv,xr,xk⟩:=x;simp only at ex;subst ex;obtain⟨x,hxe⟩: ∃x,x=(⟨.slice Ax xr.length cx,xr,xk⟩:Chn):=⟨_,rfl⟩;have hxr:xr=x.r:=by rw[hxe]
     have hxk:xk=x.k:=by rw[hxe]
     have hxv:x.v= .slice Ax x.r.length cx:=by rw[hxe]
     rw[←hxe]at hx hxm;clear hxe;subst hxr hxk;obtain⟨bv,ov,hAv,-,hcb⟩:=chn_at HL.out.sl rfl hx;subst hAv;obtain⟨d0,d1⟩:=hcb _ hbr;rw[hxv]at d1;have HRX:=Lib.hid (fun(W:World) (hb:Below w.heap.size w W)=>HRW1.out W hb x hxm);rw[hxv]at HRX;have hrr:rowR p 1 x.r=rowE p 1 x.r:=by unfold rowR;rw[if_pos HZ0.out]
     rw[hrr]at HRX;have HXI:=Lib.hid hx;have k0:(0:Int)≤(k:Int):=by omega
     have k1:(k:Int)<(L.length:Int):=by omega
     have hyc:=hyr.alloc hyr.size (.cells #[.int .i64 x.k,.slice Ax x.r.length cx] 53);have HKC:=Lib.hid (Blk.new wr1 53 #[.int .i64 x.k,.slice Ax x.r.length cx]);obtain⟨wc,hwc⟩: ∃V,wr1.alloc (.cells #[.int .i64 x.k,.slice Ax x.r.length cx] 53)=V:=⟨_,rfl⟩;rw[hwc]at hyc HKC;have hbc:=below_trans HB.out hyc;obtain⟨z0,z1,z2,z3,z4,z5,z6,z7,z8,z9,z10,z11,z12⟩:=pl_cells (HK0.out.below hyc);have hy1:=HKC.out.cell 1 _ rfl;obtain⟨EX,hEX⟩: ∃y,rowE p 1 x.r=y:=⟨_,rfl⟩;rw[hEX]at HRX;have HEX:=Lib.hid hEX;clear hx hcb hxm hxv hrr hEX hbr
     go_upto_region 15 with fail
     clear hwc
     go_wp2_with fail
     refine Calls.mono (by with_reducible exact HRX.out _ hbc) ?_;rintro e w6 ⟨rfl,hb6⟩;have hy6:=hyc.trans (hb6.mono hyc.size);clear hb6 z0 z1 z2 z3 z4 z5 z6 z7 z8 z9 z10 z11 z12;by_cases hq:EX=0
     ·have q1:=bneF hq
      have HN:=Lib.hid (show ∀y∈L.take (k+1),rowE p 1 y.r=0 from by
       have e:L.take (k+1)=L.take k++[x]:=by rw[List.take_add_one,HXI.out];rfl
       rw[e];intro y hy;rcases List.mem_append.1 hy with hy|hy
       ·exact H.out y hy
       ·rw[List.mem_singleton.1 hy,HEX.out];exact hq)
      clear hq
      go_wp2_with fail
      go_roundw
      case rel=>exact⟨k+1,by omega,by go_num,HN,hy6⟩
      case measure=>simp[intOf];omega
     ·have q1:=bneT hq
      have HE:Hid (E=EX):=Lib.hid (HFN1.out k x HXI.out (fun y hy=>H.out y hy) HEX.out hq);clear hq
      go_wp2_with fail
      go_ret;exact⟨by rw[HE.out];rfl,below_trans HB.out hy6⟩
    ·obtain rfl:k=L.length:=by omega
     rw[List.take_length]at H;have HLZ:=H;clear H
     go_wp2_with fail
     go_loopw[14,15,67] (fun _ _ iv wr=> ∃k:Nat,k≤R.length∧iv= .int .i64 k∧Hid (∀x∈(R.take k),rowE p 2 x.r=0)∧Below W1.heap.size W1 wr) (fun _ _ iv _=>R.length-(intOf iv).toNat)
     case atStart=>exact⟨0,by omega,rfl,by simp[Hid],hyr⟩
     case round=>
      clear hbr hyr hk hlt;rename World=>wr2
      obtain⟨k,hk,rfl,H,hyr⟩:=hrel;have hbr:=below_trans HB.out hyr;by_cases hlt:k<R.length
      ·have hx:=List.getElem?_eq_getElem (l:=R) hlt
       generalize (R)[k]=x at hx;have hxm:=List.mem_of_getElem? hx;obtain⟨Ax,cx,ex⟩:=HSV.out x (List.mem_append_right _ hxm);obtain⟨xv,xr,xk⟩:=x;simp only at ex;subst ex;obtain⟨x,hxe⟩: ∃x,x=(⟨.slice Ax xr.length cx,xr,xk⟩:Chn):=⟨_,rfl⟩;have hxr:xr=x.r:=by rw[hxe]
       have hxk:xk=x.k:=by rw[hxe]
       have hxv:x.v= .slice Ax x.r.length cx:=by rw[hxe]
       rw[←hxe]at hx hxm;clear hxe;subst hxr hxk;obtain⟨bv,ov,hAv,-,hcb⟩:=chn_at HR.out.sl rfl hx;subst hAv;obtain⟨d0,d1⟩:=hcb _ hbr;rw[hxv]at d1;have HRX:=Lib.hid (fun(W:World) (hb:Below w.heap.size w W)=>HRW2.out W hb x hxm);rw[hxv]at HRX;have hrr:rowR p 2 x.r=rowE p 2 x.r:=by unfold rowR;rw[if_pos HZ0.out]
       rw[hrr]at HRX;have HXI:=Lib.hid hx;have k0:(0:Int)≤(k:Int):=by omega
       have k1:(k:Int)<(R.length:Int):=by omega
       have hyc:=hyr.alloc hyr.size (.cells #[.int .i64 x.k,.slice Ax x.r.length cx] 53);have HKC:=Lib.hid (Blk.new wr2 53 #[.int .i64 x.k,.slice Ax x.r.length cx]);obtain⟨wc,hwc⟩: ∃V,wr2.alloc (.cells #[.int .i64 x.k,.slice Ax x.r.length cx] 53)=V:=⟨_,rfl⟩;rw[hwc]at hyc HKC;have hbc:=below_trans HB.out hyc;obtain⟨z0,z1,z2,z3,z4,z5,z6,z7,z8,z9,z10,z11,z12⟩:=pl_cells (HK0.out.below hyc);have hy1:=HKC.out.cell 1 _ rfl;obtain⟨EX,hEX⟩: ∃y,rowE p 2 x.r=y:=⟨_,rfl⟩;rw[hEX]at HRX;have HEX:=Lib.hid hEX;clear hx hcb hxm hxv hrr hEX hbr
       go_upto_region 22 with fail
       clear hwc
       go_wp2_with fail
       refine Calls.mono (by with_reducible exact HRX.out _ hbc) ?_;rintro e w6 ⟨rfl,hb6⟩;have hy6:=hyc.trans (hb6.mono hyc.size);clear hb6 z0 z1 z2 z3 z4 z5 z6 z7 z8 z9 z10 z11 z12;by_cases hq:EX=0
       ·have q1:=bneF hq
        have HN:=Lib.hid (show ∀y∈R.take (k+1),rowE p 2 y.r=0 from by
         have e:R.take (k+1)=R.take k++[x]:=by rw[List.take_add_one,HXI.out];rfl
         rw[e];intro y hy;rcases List.mem_append.1 hy with hy|hy
         ·exact H.out y hy
         ·rw[List.mem_singleton.1 hy,HEX.out];exact hq)
        clear hq
        go_wp2_with fail
        go_roundw
        case rel=>exact⟨k+1,by omega,by go_num,HN,hy6⟩
        case measure=>simp[intOf];omega
       ·have q1:=bneT hq
        have HE:Hid (E=EX):=Lib.hid (HFN2.out k x HXI.out (fun y hy=>H.out y hy) HEX.out hq HLZ.out);clear hq
        go_wp2_with fail
        go_ret;exact⟨by rw[HE.out];rfl,below_trans HB.out hy6⟩
      ·obtain rfl:k=R.length:=by omega
       rw[List.take_length]at H;have HE:Hid (E=0):=Lib.hid (HFIN.out HLZ.out H.out);go_wp2;go_ret;exact⟨by rw[HE.out];rfl,hbr⟩
end Go.Proofs.YtjhbeecmdgglgaaGreatDoor
