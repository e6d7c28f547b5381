/-Batches: the reference's version. (Printed by genbat14.py.) -/
import Derived.Test.YtjhbeecmdgglgaaGreatDoorGrpX38
set_option linter.unusedSimpArgs false
set_option linter.unusedVariables false
namespace Go.Proofs.YtjhbeecmdgglgaaGreatDoor
open Go.RowKit Go.Maps
open tm (fitsB)
set_option maxHeartbeats 8000000 in
set_option maxRecDepth 10000 in
theorem rversion_any (p:Pl)(t:Int)(va vR:Value)(a:List Val)(R:List Chn)(w:World)(h:p.ok w)(hz:checkP p=0)(ha:Sl w va a.length (rowCells a))(hR:Chs w vR R)(hfa:Fine a)(hfr: ∀x∈R,Fine x.r)(hra:rowE p 1 a=0)(hrr: ∀x∈R,rowE p 2 x.r=0)(hl:R.length≤4096):
 Calls Tryz.prog 47 #[.agg #[.int .i64 p.kind,.int .i64 p.mode,.int .i64 p.low,.int .i64 p.high,.int .i64 p.size,.int .i64 p.limit,p.vl,p.vr,p.vk,p.vq,.bool p.grouped,p.vg,p.va],.agg #[.int .i64 t,va],vR] w fun e w'=>e= .returned (.int .i64 (verI p (ac R) (t,a)))∧Below w.heap.size w w':=by
 have HR:=Lib.hid hR;have HKA:=Lib.hid (fun(W:World) (hW:Below w.heap.size w W)=>keyFor_any p 1 va a W (h.below hW) (ha.below hW) hfa (rowE_fine hz hra));have HKB:=Lib.hid (fun(W:World) (hW:Below w.heap.size w W) (x:Chn) (hx:x∈R)=>keyFor_any p 2 x.v x.r W (h.below hW) ((hR.rows x hx).below hW) (hfr x hx) (rowE_fine hz (hrr x hx)));obtain⟨E,hE⟩: ∃y,verI p (ac R) (t,a)=y:=⟨_,rfl⟩;have hEE:E=if(keyFor p 1 a).2=true then optI (bestI (ac R) t (idxs p (ac R) (keyFor p 1 a).1))else-1:=hE.symm
 rw[hE];obtain⟨k1,hk1⟩: ∃y,keyFor p 1 a=y:=⟨_,rfl⟩;rw[hk1]at HKA hEE;obtain⟨s1,q1⟩:=k1;simp only at hEE HKA;have HEE:=Lib.hid hEE;clear hE hk1 hEE;obtain⟨A0,c0,h0,n0,m0,-⟩:=id h.l;obtain⟨A1,c1,h1,n1,m1,-⟩:=id h.r;obtain⟨A2,c2,h2,n2,m2,-⟩:=id h.k;obtain⟨A3,c3,h3,n3,m3,-⟩:=id h.q;obtain⟨A4,c4,h4,n4,m4,-⟩:=id h.g;obtain⟨A5,c5,h5,n5,m5,-⟩:=id h.a;obtain⟨Aa,ca,rfl,-⟩:=id ha;obtain⟨AR,cR,rfl,nR,mR,-⟩:=id hR.sl;unfold maxLen at mR;rw[h0,h1,h2,h3,h4,h5]at HKA HKB⊢;have hb1:=below_alloc w (.cells #[.int .i64 p.kind,.int .i64 p.mode,.int .i64 p.low,.int .i64 p.high,.int .i64 p.size,.int .i64 p.limit,.slice A0 p.left.length c0,.slice A1 p.right.length c1,.slice A2 p.lkeys.length c2,.slice A3 p.rkeys.length c3,.bool p.grouped,.slice A4 p.group.length c4,.slice A5 p.aggs.length c5] 25);have hb2:=hb1.alloc hb1.size (.cells #[.int .i64 t,.slice Aa a.length ca] 53);have hK1:=(Blk.new w 25 #[.int .i64 p.kind,.int .i64 p.mode,.int .i64 p.low,.int .i64 p.high,.int .i64 p.size,.int .i64 p.limit,.slice A0 p.left.length c0,.slice A1 p.right.length c1,.slice A2 p.lkeys.length c2,.slice A3 p.rkeys.length c3,.bool p.grouped,.slice A4 p.group.length c4,.slice A5 p.aggs.length c5]).alloc (.cells #[.int .i64 t,.slice Aa a.length ca] 53);have hK2:=new_second w 53 #[.int .i64 t,.slice Aa a.length ca] (.cells #[.int .i64 p.kind,.int .i64 p.mode,.int .i64 p.low,.int .i64 p.high,.int .i64 p.size,.int .i64 p.limit,.slice A0 p.left.length c0,.slice A1 p.right.length c1,.slice A2 p.lkeys.length c2,.slice A3 p.rkeys.length c3,.bool p.grouped,.slice A4 p.group.length c4,.slice A5 p.aggs.length c5] 25);obtain⟨W2,hW2⟩: ∃V,(w.alloc (.cells #[.int .i64 p.kind,.int .i64 p.mode,.int .i64 p.low,.int .i64 p.high,.int .i64 p.size,.int .i64 p.limit,.slice A0 p.left.length c0,.slice A1 p.right.length c1,.slice A2 p.lkeys.length c2,.slice A3 p.rkeys.length c3,.bool p.grouped,.slice A4 p.group.length c4,.slice A5 p.aggs.length c5] 25)).alloc (.cells #[.int .i64 t,.slice Aa a.length ca] 53)=V:=⟨_,rfl⟩;rw[hW2]at hb2 hK1 hK2;have HB:=Lib.hid hb2;have HK1:=Lib.hid hK1;have HK2:=Lib.hid hK2;obtain⟨z0,z1,z2,z3,z4,z5,z6,z7,z8,z9,z10,z11,z12⟩:=pl_cells HK1.out;have y1:=HK2.out.cell 1 _ rfl;clear h h0 h1 h2 h3 h4 h5 n0 n1 n2 n3 n4 n5 m0 m1 m2 m3 m4 m5 ha hR hfa hfr hra hrr hb1 hb2 hK1 hK2 hz;go_enter Tryz.func47,Tryz.ntmps47
 go_upto_region 1 with fail
 clear hW2
 go_wp2_with fail
 refine Calls.mono (by with_reducible exact HKA.out _ HB.out) ?_;rintro e w4 ⟨rfl,hb4⟩;have hyr:=hb4;clear hb4 z0 z1 z2 z3 z4 z5 z6 z7 z8 z9 z10 z11 z12 y1;cases q1 with
 |false=>
  have HE:Hid (E= -1):=Lib.hid (by rw[HEE.out];rfl);have HBF:=Lib.hid (below_trans HB.out hyr)
  go_wp2_with fail
  go_loopw[9,10,11,12] (fun bv iv _ _ wr=>bv= .int .i64 (-1)∧iv= .int .i64 0∧wr=w4) (fun _ _ _ _ _=>0)
  case atStart=>exact⟨rfl,rfl,rfl⟩
  case round=>
   rename World=>wr
   obtain⟨rfl,rfl,rfl⟩:=hrel;by_cases h0:0<R.length
   ·have h0':(0:Int)<(R.length:Int):=by omega
    go_wp2;go_ret;exact⟨by rw[HE.out];rfl,HBF.out⟩
   ·have h0':decide ((0:Int)<(R.length:Int))=false:=decide_eq_false (by omega)
    have h1':decide (0<R.length)=false:=decide_eq_false h0;have HR0:Hid (R.length=0):=Lib.hid (by omega);clear h0;go_wp2;go_ret;exact⟨by rw[HE.out];rfl,HBF.out⟩
 |true=>
  have HE:Hid (E=optI (bestI (ac R) t (idxs p (ac R) s1))):=Lib.hid (by rw[HEE.out];rfl);have HBX:=Lib.hid (fun n b=> @bestN_mem p (ac R) s1 t n b);have HST:=Lib.hid (fun n=>bestN_step p (ac R) s1 t n)
  go_wp2_with fail
  go_loopw[9,10,11,12] (fun bv iv _ _ wr=> ∃(i:Nat) (bo:Option Int),i≤R.length∧iv= .int .i64 i∧bv= .int .i64 (optI bo)∧Hid (bestI (ac R) t (idxsN p (ac R) s1 i)=bo)∧Below W2.heap.size W2 wr) (fun _ iv _ _ _=>R.length-(intOf iv).toNat)
  case atStart=>exact⟨0,none,by omega,rfl,rfl,Lib.hid rfl,hyr⟩
  case round=>
   clear hyr;rename World=>wr
   obtain⟨i,bo,hi,rfl,rfl,HBO,hyr⟩:=hrel;by_cases hli:i<R.length
   ·have hbr:=below_trans HB.out hyr
    have hx:=List.getElem?_eq_getElem (l:=R) hli;generalize R[i]=x at hx;have hxm:=List.mem_of_getElem? hx;obtain⟨Ax,cx,ex,nx,mx,-⟩:=id (HR.out.rows x hxm);obtain⟨xv,xr,xk⟩:=x;simp only at ex nx;subst ex;obtain⟨x,hxe⟩: ∃x,x=(⟨.slice Ax xr.length cx,xr,xk⟩:Chn):=⟨_,rfl⟩;have hxr:xr=x.r:=by rw[hxe]
    have hxk:xk=x.k:=by rw[hxe]
    have hxv:x.v= .slice Ax x.r.length cx:=by rw[hxe]
    rw[←hxe]at hx hxm;clear hxe;subst hxr hxk;obtain⟨bv,ov,hAv,-,hcb⟩:=chn_at HR.out.sl rfl hx;subst hAv;have HKX:=Lib.hid (fun(W:World) (hb:Below w.heap.size w W)=>HKB.out W hb x hxm);rw[hxv]at HKX;obtain⟨k2,hk2⟩: ∃y,keyFor p 2 x.r=y:=⟨_,rfl⟩;rw[hk2]at HKX;obtain⟨s2,q2⟩:=k2;simp only at HKX;have HKD:Hid (keyed p 2 (rowAt (ac R) i) s1=(q2&&decide (s2=s1))):=Lib.hid (by rw[rowAt_ac hx];unfold keyed;rw[hk2]);have HTA:=Lib.hid (timeAt_ac hx)
    have HSSS:=Lib.hid (show ∀w',Below W2.heap.size W2 w'→w'.cell? ⟨w.heap.size,0,none⟩=some (.int .i64 p.kind)∧w'.cell? ⟨w.heap.size,1,none⟩=some (.int .i64 p.mode)∧w'.cell? ⟨w.heap.size,2,none⟩=some (.int .i64 p.low)∧w'.cell? ⟨w.heap.size,3,none⟩=some (.int .i64 p.high)∧w'.cell? ⟨w.heap.size,4,none⟩=some (.int .i64 p.size)∧w'.cell? ⟨w.heap.size,5,none⟩=some (.int .i64 p.limit)∧w'.cell? ⟨w.heap.size,6,none⟩=some (.slice A0 p.left.length c0)∧w'.cell? ⟨w.heap.size,7,none⟩=some (.slice A1 p.right.length c1)∧w'.cell? ⟨w.heap.size,8,none⟩=some (.slice A2 p.lkeys.length c2)∧w'.cell? ⟨w.heap.size,9,none⟩=some (.slice A3 p.rkeys.length c3)∧w'.cell? ⟨w.heap.size,10,none⟩=some (.bool p.grouped)∧w'.cell? ⟨w.heap.size,11,none⟩=some (.slice A4 p.group.length c4)∧w'.cell? ⟨w.heap.size,12,none⟩=some (.slice A5 p.aggs.length c5)∧w'.cell? ⟨bv,ov+i*2+1,none⟩=some (.slice Ax x.r.length cx)from fun w' hb=>by
     obtain⟨z0,z1,z2,z3,z4,z5,z6,z7,z8,z9,z10,z11,z12⟩:=pl_cells (HK1.out.below hb);have h1:=(hcb _ (below_trans HB.out hb)).2;rw[hxv]at h1;exact⟨z0,z1,z2,z3,z4,z5,z6,z7,z8,z9,z10,z11,z12,h1⟩)
    have HTM:=Lib.hid (show ∀w',Below W2.heap.size W2 w'→w'.cell? ⟨bv,ov+i*2,none⟩=some (.int .i64 x.k)∧w'.cell? ⟨w.heap.size+1,0,none⟩=some (.int .i64 t)from fun w' hb=>⟨(hcb _ (below_trans HB.out hb)).1,(HK2.out.below hb).cell 0 _ rfl⟩);have i0:(0:Int)≤(i:Int):=by omega
    have i1:(i:Int)<(R.length:Int):=by omega
    have hyd:=hyr.drew;clear hx hxm hcb hxv hk2 hbr
    go_upto_region 6 with fail
    go_region_held3 (fun w'=>w'.cell? ⟨w.heap.size,0,none⟩=some (.int .i64 p.kind)∧w'.cell? ⟨w.heap.size,1,none⟩=some (.int .i64 p.mode)∧w'.cell? ⟨w.heap.size,2,none⟩=some (.int .i64 p.low)∧w'.cell? ⟨w.heap.size,3,none⟩=some (.int .i64 p.high)∧w'.cell? ⟨w.heap.size,4,none⟩=some (.int .i64 p.size)∧w'.cell? ⟨w.heap.size,5,none⟩=some (.int .i64 p.limit)∧w'.cell? ⟨w.heap.size,6,none⟩=some (.slice A0 p.left.length c0)∧w'.cell? ⟨w.heap.size,7,none⟩=some (.slice A1 p.right.length c1)∧w'.cell? ⟨w.heap.size,8,none⟩=some (.slice A2 p.lkeys.length c2)∧w'.cell? ⟨w.heap.size,9,none⟩=some (.slice A3 p.rkeys.length c3)∧w'.cell? ⟨w.heap.size,10,none⟩=some (.bool p.grouped)∧w'.cell? ⟨w.heap.size,11,none⟩=some (.slice A4 p.group.length c4)∧w'.cell? ⟨w.heap.size,12,none⟩=some (.slice A5 p.aggs.length c5)∧w'.cell? ⟨bv,ov+i*2+1,none⟩=some (.slice Ax x.r.length cx))
     (first|exact HSSS.out _ hyd|exact HSSS.out _ hy6|go_keep)
     ((go_at_call 94;refine(HKX.out _ (below_trans HB.out hyd)).mono ?_;rintro e w6 ⟨rfl,hb6⟩;have hy6:=hyd.trans (hb6.mono hyd.size)))
    all_goals
     clear hyd hb6;have HY6:=Lib.hid hy6;obtain⟨d0,d1⟩:=HTM.out _ hy6
     go_upto_region 7 with fail
     go_cut[71]from 20 to 72 (fun cv wx=> ∃Q:Bool,cv= .bool Q∧Hid (Q=((q2&&decide (s2=s1))&&decide (x.k≤t∧overI (ac R) i bo=true)))∧Below W2.heap.size W2 wx)
     case first=>
      clear hy6;cases q2 with
      |false=>
       go_wp2_with fail
       go_quiet (fail)
       go_wp2
       go_meet
       exact⟨_,rfl,Lib.hid rfl,below_drewN HY6.out _⟩
      |true=>
       by_cases hs:s2=s1
       ·subst hs
        have hse:(s2.toList==s2.toList)=true:=beq_self_eq_true _;have HKK:Hid ((true&&decide (s2=s2))=true):=Lib.hid (by simp);by_cases htx:x.k≤t
        ·cases bo with
         |none=>
          have hob:optI none= -1:=rfl;have HDD:Hid (decide (x.k≤t∧overI (ac R) i none=true)=true):=Lib.hid (decide_eq_true ⟨htx,rfl⟩)
          go_wp2_with fail
          go_quiet (fail)
          go_wp2
          go_meet
          exact⟨_,rfl,Lib.hid (by rw[HKK.out,HDD.out];rfl),below_drewN HY6.out _⟩
         |some bb=>
          obtain⟨b0,b1⟩:=HBX.out i bb HBO.out;obtain⟨n,hnb⟩: ∃n:Nat,(n:Int)=bb:=⟨bb.toNat,by omega⟩;subst hnb;have hn:n<R.length:=by omega
          have hob:optI (some (n:Int))=(n:Int):=rfl;have hyx:=List.getElem?_eq_getElem (l:=R) hn;generalize R[n]=y at hyx;obtain⟨bv',ov',hAv,-,hcb⟩:=chn_at HR.out.sl rfl hyx;injection hAv with hAv;injection hAv with e1 e2 _;subst e1 e2;have d2:=(hcb w6 (below_trans HB.out HY6.out)).1;have n0:(0:Int)≤(n:Int):=by omega
          have n1:(n:Int)<(R.length:Int):=by omega
          have n2:decide ((n:Int)<0)=false:=decide_eq_false (by omega);have HOV:Hid (overI (ac R) i (some (n:Int))=decide (y.k≤x.k)):=Lib.hid (by show decide (timeAt (ac R) (n:Int)≤timeAt (ac R) (i:Int))=_;rw[HTA.out,timeAt_ac hyx]);clear hyx hcb b0 b1 hn;by_cases hyk:y.k≤x.k
          ·have HDD:Hid (decide (x.k≤t∧overI (ac R) i (some (n:Int))=true)=true):=Lib.hid (decide_eq_true ⟨htx,by rw[HOV.out];exact decide_eq_true hyk⟩)
           go_wp2_with fail
           go_quiet (fail)
           go_wp2
           go_meet
           exact⟨_,rfl,Lib.hid (by rw[HKK.out,HDD.out];rfl),below_drewN HY6.out _⟩
          ·have HDD:Hid (decide (x.k≤t∧overI (ac R) i (some (n:Int))=true)=false):=Lib.hid (decide_eq_false (fun h=>hyk (of_decide_eq_true (HOV.out▸h.2))))
           have hyd2:decide (y.k≤x.k)=false:=decide_eq_false hyk
           go_wp2_with fail
           go_quiet (fail)
           go_wp2
           go_meet
           exact⟨_,rfl,Lib.hid (by rw[HKK.out,HDD.out];rfl),below_drewN HY6.out _⟩
        ·have HDD:Hid (decide (x.k≤t∧overI (ac R) i bo=true)=false):=Lib.hid (decide_eq_false (fun h=>htx h.1))
         have htd:decide (x.k≤t)=false:=decide_eq_false htx
         go_wp2_with fail
         go_quiet (fail)
         go_wp2
         go_meet
         exact⟨_,rfl,Lib.hid (by rw[HKK.out,HDD.out];rfl),below_drewN HY6.out _⟩
       ·have hse:(s2.toList==s1.toList)=false:=bytes_ne hs
        have HKK:Hid ((true&&decide (s2=s1))=false):=Lib.hid (by simp[hs]);clear hs
        go_wp2_with fail
        go_quiet (fail)
        go_wp2
        go_meet
        exact⟨_,rfl,Lib.hid (by rw[HKK.out];rfl),below_drewN HY6.out _⟩
     case rest=>
      obtain⟨Q,rfl,HQ,hyx⟩:=hcut;clear hy6 d0 d1
      have HNEW:Hid (bestI (ac R) t (idxsN p (ac R) s1 (i+1))=if Q=true then some (i:Int)else bo):=Lib.hid (by
       rw[HST.out i,HBO.out,HKD.out,HQ.out];unfold bestStep;rw[HTA.out];cases hk:(q2&&decide (s2=s1))with
       |false=>rfl
       |true=>simp)
      cases Q
      ·go_wp2_with fail
       go_roundw
       case rel=>exact⟨i+1,bo,by omega,by go_num,rfl,HNEW,hyx⟩
       case measure=>simp[intOf];omega
      ·go_wp2_with fail
       go_roundw
       case rel=>exact⟨i+1,some (i:Int),by omega,by go_num,rfl,HNEW,hyx⟩
       case measure=>simp[intOf];omega
   ·obtain rfl:i=R.length:=by omega
    have HEN:Hid (E=optI bo):=Lib.hid (by
     rw[HE.out,←HBO.out];unfold idxs idxsN;rw[show(ac R).length=R.length from List.length_map _])
    go_wp2;go_ret;exact⟨by rw[HEN.out];rfl,below_trans HB.out hyr⟩
end Go.Proofs.YtjhbeecmdgglgaaGreatDoor
