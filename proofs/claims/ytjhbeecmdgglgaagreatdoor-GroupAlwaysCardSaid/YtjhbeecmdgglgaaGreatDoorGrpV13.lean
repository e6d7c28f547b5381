/-Batches: rows (ErrMany and ErrType of a view of joined rows). -/
import Derived.Test.YtjhbeecmdgglgaaGreatDoorGrpV12
import Derived.Test.YtjhbeecmdgglgaaGreatDoorGrpV5
import Derived.Test.YtjhbeecmdgglgaaGreatDoorGrpV10
set_option linter.unusedSimpArgs false
set_option linter.unusedVariables false
namespace Go.Proofs.YtjhbeecmdgglgaaGreatDoor
open Go.RowKit
def longB (n:Nat) (l:List (List Val)):Bool:=l.all fun r=>r.length==n
def typB (t:List Int) (l:List (List Val)):Bool:=l.all fun r=>allB fitOne (t.zip r)
def rowsE (t:List Int) (l:List (List Val)):Int:=if longB t.length l=false then 2 else if typB t l=false then 5 else 0
def rsV (l:List Cnt):List (List Val):=l.map (·.r)
theorem rsV_at {l:List Cnt}{k:Nat}{x:Cnt}(h:l[k]?=some x):(rsV l)[k]?=some x.r:=by unfold rsV;rw[List.getElem?_map,h];rfl
theorem rsV_len (l:List Cnt):(rsV l).length=l.length:=List.length_map _
set_option maxHeartbeats 4000000 in
set_option maxRecDepth 10000 in
theorem brows_any (p:Pl)(v:Value)(l:List Cnt)(w:World)(h:p.ok w)(hz:checkP p=0)(hV:View w v l):
 Calls Tryz.prog 54 #[.agg #[.int .i64 p.kind,.int .i64 p.mode,.int .i64 p.low,.int .i64 p.high,.int .i64 p.size,.int .i64 p.limit,p.vl,p.vr,p.vk,p.vq,.bool p.grouped,p.vg,p.va],v] w fun e w'=>e= .returned (.int .i64 (rowsE (allT p) (rsV l)))∧Below w.heap.size w w':=by
 have HL:=Lib.hid h.l;have HR:=Lib.hid h.r;have HV:=Lib.hid hV;have hsh:=counts_short (check_ok hz).2.2.1;have hl1:=hsh.l1;have hl2:=hsh.l2;have hr1:=hsh.r1;have hr2:=hsh.r2;obtain⟨A0,c0,h0,n0,m0,-⟩:=id HL.out;obtain⟨A1,c1,h1,n1,m1,-⟩:=id HR.out;obtain⟨A2,c2,h2,-⟩:=h.k;obtain⟨A3,c3,h3,-⟩:=h.q;obtain⟨A4,c4,h4,-⟩:=h.g;obtain⟨A5,c5,h5,-⟩:=h.a;obtain⟨Av,cv,rfl,nv,mv,-⟩:=id hV.sl;rw[h0]at HL;rw[h1]at HR;rw[h0,h1,h2,h3,h4,h5];unfold maxLen at m0 m1 mv;have hcat:allT p=p.left++p.right:=rfl;rw[hcat];have hB:=below_alloc w (.cells #[.int .i64 p.kind,.int .i64 p.mode,.int .i64 p.low,.int .i64 p.high,.int .i64 p.size,.int .i64 p.limit,.slice A0 p.left.length c0,.slice A1 p.right.length c1,.slice A2 p.lkeys.length c2,.slice A3 p.rkeys.length c3,.bool p.grouped,.slice A4 p.group.length c4,.slice A5 p.aggs.length c5] 25);have K1:=Blk.new w 25 #[.int .i64 p.kind,.int .i64 p.mode,.int .i64 p.low,.int .i64 p.high,.int .i64 p.size,.int .i64 p.limit,.slice A0 p.left.length c0,.slice A1 p.right.length c1,.slice A2 p.lkeys.length c2,.slice A3 p.rkeys.length c3,.bool p.grouped,.slice A4 p.group.length c4,.slice A5 p.aggs.length c5];have y6:=K1.cell 6 _ rfl;have y7:=K1.cell 7 _ rfl;obtain⟨wa,hwa⟩: ∃V,w.alloc (.cells #[.int .i64 p.kind,.int .i64 p.mode,.int .i64 p.low,.int .i64 p.high,.int .i64 p.size,.int .i64 p.limit,.slice A0 p.left.length c0,.slice A1 p.right.length c1,.slice A2 p.lkeys.length c2,.slice A3 p.rkeys.length c3,.bool p.grouped,.slice A4 p.group.length c4,.slice A5 p.aggs.length c5] 25)=V:=⟨_,rfl⟩;rw[hwa]at hB y6 y7;have hB2:=hB.alloc hB.size (.cells #[.slice A0 p.left.length c0,.slice A1 p.right.length c1] 22);have HT:=Lib.hid (two_sl wa (.slice A0 p.left.length c0) (.slice A1 p.right.length c1));have HC:=Lib.hid (concat_any _ _ _ p.left p.right _ HT.out (HL.out.below hB2) (HR.out.below hB2) (by omega) (by omega));clear K1 h h0 h1 h2 h3 h4 h5 hV hsh hcat HT;generalize p.left++p.right=t at HC⊢;obtain⟨R,hR⟩: ∃R,rowsE t (rsV l)=R:=⟨_,rfl⟩;rw[hR];have HRR:Hid (R=if longB t.length (rsV l)=false then 2 else if typB t (rsV l)=false then 5 else 0):=Lib.hid hR.symm;clear hR;go_enter Tryz.func54,Tryz.ntmps54
 go_wp2_with (rw[hwa];clear hwa;skip)
 refine Calls.mono (by with_reducible exact HC.out) ?_;rintro e w2 ⟨vt,rfl,hst,-,hb2⟩;have hbw2:=below_trans hB2 hb2;have HST:=Lib.hid hst;obtain⟨At,ct,rfl,nt,mt,-⟩:=id hst;unfold maxLen at mt;clear y6 y7 hB hB2 hb2 HC hst
 go_wp2_with fail
 go_loopw[7,20] (fun _ i wr=> ∃k:Nat,k≤l.length∧i= .int .i64 k∧Hid (∀r∈(rsV l).take k,(r.length==t.length)=true)∧Below w.heap.size w wr∧Below w2.heap.size w2 wr) (fun _ i _=>l.length-(intOf i).toNat)
 case atStart=>exact⟨0,by omega,rfl,by simp[Hid],hbw2,Below.refl _ _⟩
 case round=>
  rename World=>wr
  obtain⟨k,hk,rfl,H,hbr,hb2r⟩:=hrel;by_cases hlt:k<l.length
  ·have hx:=List.getElem?_eq_getElem (l:=l) hlt
   generalize l[k]=x at hx;obtain⟨bv,ov,hAv,-,hc⟩:=cnt_at HV.out.sl rfl hx;subst hAv;obtain⟨d0,d1⟩:=hc _ hbr;obtain⟨Ax,cx,ex,nx,mx,-⟩:=id (HV.out.rows x (List.mem_of_getElem? hx));rw[ex]at d0;have HX:=Lib.hid (rsV_at hx);have k0:(0:Int)≤(k:Int):=by omega
   have k1:(k:Int)<(l.length:Int):=by omega
   have HBZ:=Lib.hid (hbr.alloc hbr.size (.cells #[.slice Ax x.r.length cx,.int .i64 x.n] 45));have HBZ2:=Lib.hid (hb2r.alloc hb2r.size (.cells #[.slice Ax x.r.length cx,.int .i64 x.n] 45));clear hx hc ex;unfold maxLen at mx;by_cases hq:x.r.length=t.length
   ·have q1:((x.r.length:Int) !=(t.length:Int))=false:=by rw[hq];simp
    have HN:=Lib.hid (all_step (f:=fun r:List Val=>r.length==t.length) H.out HX.out (by simpa using hq));clear hq
    go_wp2_with fail
    go_roundw
    case rel=>exact⟨k+1,by omega,by go_num,HN.out,HBZ.out,HBZ2.out⟩
    case measure=>simp[intOf];omega
   ·have q1:((x.r.length:Int) !=(t.length:Int))=true:=by simp;omega
    have HE:Hid (R=2):=Lib.hid (by
     have e:=all_no (f:=fun r:List Val=>r.length==t.length) HX.out (by simpa using hq);rw[HRR.out,if_pos (show longB t.length (rsV l)=false from e)])
    clear hq
    go_wp2_with fail
    go_ret;exact⟨by rw[HE.out];rfl,HBZ.out⟩
  ·obtain rfl:k=l.length:=by omega
   have HLL:Hid (longB t.length (rsV l)=true):=Lib.hid (all_yes (by rw[rsV_len];exact H.out));have HR2:Hid (R=if typB t (rsV l)=false then 5 else 0):=Lib.hid (by rw[HRR.out,HLL.out];rfl)
   have HLA:Hid (∀x∈l,x.r.length=t.length):=Lib.hid (fun x hx=>by
    have h1:=HLL.out;unfold longB at h1;rw[List.all_eq_true]at h1;simpa using h1 x.r (List.mem_map.2 ⟨x,hx,rfl⟩))
   clear H HRR HLL hbw2;have hbw2:=hbr
   go_wp2_with fail
   go_loopw[9,33] (fun _ i wr=> ∃k:Nat,k≤l.length∧i= .int .i64 k∧Hid (∀r∈(rsV l).take k,allB fitOne (t.zip r)=true)∧Below w.heap.size w wr∧Below w2.heap.size w2 wr) (fun _ i _=>l.length-(intOf i).toNat)
   case atStart=>exact⟨0,by omega,rfl,by simp[Hid],hbr,hb2r⟩
   case round=>
    clear hbr hb2r hbw2 hk hlt;rename World=>wr1
    obtain⟨k,hk,rfl,H,hbr,hb2r⟩:=hrel;by_cases hlt:k<l.length
    ·have hx:=List.getElem?_eq_getElem (l:=l) hlt
     generalize l[k]=x at hx;obtain⟨bv,ov,hAv,-,hc⟩:=cnt_at HV.out.sl rfl hx;subst hAv;obtain⟨d0,d1⟩:=hc _ hbr;have hxm:=List.mem_of_getElem? hx;obtain⟨Ax,cx,ex,nx,mx,-⟩:=id (HV.out.rows x hxm);have HXR:=Lib.hid (HV.out.rows x hxm);rw[ex]at d0 HXR;have HX:=Lib.hid (rsV_at hx);have hxl:=HLA.out x hxm;have k0:(0:Int)≤(k:Int):=by omega
     have k1:(k:Int)<(l.length:Int):=by omega
     have HBZ:=Lib.hid (hbr.alloc hbr.size (.cells #[.slice Ax x.r.length cx,.int .i64 x.n] 45));have HBZ2:=Lib.hid (hb2r.alloc hb2r.size (.cells #[.slice Ax x.r.length cx,.int .i64 x.n] 45));have hle:x.r.length≤t.length:=by omega
     have HLE:=Lib.hid hle;clear hx hc ex hxm hxl;unfold maxLen at mx
     go_wp2_with fail
     go_loopw[10,11,40] (fun _ _ i wr=> ∃j:Nat,j≤x.r.length∧i= .int .i64 j∧Hid (∀q∈(t.zip x.r).take j,fitOne q=true)∧Below w.heap.size w wr∧Below w2.heap.size w2 wr) (fun _ _ i _=>x.r.length-(intOf i).toNat)
     case atStart=>exact⟨0,by omega,rfl,by simp[Hid],HBZ.out,HBZ2.out⟩
     case round=>
      clear HBZ HBZ2 hbr hb2r d0 d1;rename World=>wr2
      obtain⟨j,hj,rfl,HJ,hbr,hb2r⟩:=hrel;by_cases hjl:j<x.r.length
      ·have hy:=List.getElem?_eq_getElem (l:=x.r) hjl
       generalize x.r[j]=y at hy;obtain⟨g,off,hAg,-,hc⟩:=val_at HXR.out rfl hy;subst hAg;obtain⟨d1,d2,d3⟩:=hc _ hbr;have hj2:j<t.length:=by omega
       obtain⟨bt,ot,hAt,-,hct⟩:=int_at HST.out rfl hj2;subst hAt;have HBY:=hbr.alloc hbr.size (.cells #[.int .i64 y.k,.int .i64 y.n,.string y.s] 68);have HBY2:=hb2r.alloc hb2r.size (.cells #[.int .i64 y.k,.int .i64 y.n,.string y.s] 68);have d4:=hct _ HBY2;have gt:t[j]?=some (t.getD j 0):=by simp[hj2]
       generalize t.getD j 0=z at d4 gt;have HG:=Lib.hid (show(t.zip x.r)[j]?=some (z,y)from by rw[List.getElem?_zip_eq_some];exact⟨gt,hy⟩);have HFO:=Lib.hid (show fitOne (z,y)=(y.k==0||y.k==z)from rfl);clear hy hc hct gt;have j0:(0:Int)≤(j:Int):=by omega
       have j1:(j:Int)<(t.length:Int):=by omega
       have j2:(j:Int)<(x.r.length:Int):=by omega
       cases hq:(y.k==0)
       ·have hq2:=bne_of hq
        simp only[Bool.not_false]at hq2;cases hz:(y.k==z)
        ·have hz2:=bne_of hz
         simp only[Bool.not_false]at hz2;have e1:=Lib.hid (all_no (f:=fitOne) HG.out (by rw[HFO.out,hq,hz];rfl))
         have EE:Hid (R=5):=Lib.hid (by
          have e:=all_no (f:=fun r:List Val=>allB fitOne (t.zip r)) HX.out e1.out;rw[HR2.out,if_pos (show typB t (rsV l)=false from e)])
         go_wp2_with fail
         go_quiet (fail)
         go_wp2;go_ret;exact⟨by rw[EE.out];rfl,below_drewN HBY _⟩
        ·have hz2:=bne_of hz
         simp only[Bool.not_true]at hz2;have e1:=Lib.hid (all_step (f:=fitOne) HJ.out HG.out (by rw[HFO.out,hz,Bool.or_true]))
         go_wp2_with fail
         go_quiet (fail)
         go_wp2;go_roundw
         case rel=>exact⟨j+1,by omega,by go_num,e1.out,below_drewN HBY _,below_drewN HBY2 _⟩
         case measure=>simp[intOf];omega
       ·have hq2:=bne_of hq
        simp only[Bool.not_true]at hq2;have e1:=Lib.hid (all_step (f:=fitOne) HJ.out HG.out (by rw[HFO.out,hq,Bool.true_or]))
        go_wp2_with fail
        go_quiet (fail)
        go_wp2;go_roundw
        case rel=>exact⟨j+1,by omega,by go_num,e1.out,below_drewN HBY _,below_drewN HBY2 _⟩
        case measure=>simp[intOf];omega
      ·obtain rfl:j=x.r.length:=by omega
       have e1:allB fitOne (t.zip x.r)=true:=all_yes (by
        have hzl:(t.zip x.r).length=x.r.length:=by rw[List.length_zip];omega
        rw[hzl];exact HJ.out)
       have HN:=Lib.hid (all_step (f:=fun r:List Val=>allB fitOne (t.zip r)) H.out HX.out e1);clear e1
       go_wp2_with fail
       go_roundw
       case rel=>exact⟨k+1,by omega,by go_num,HN.out,hbr,hb2r⟩
       case measure=>simp[intOf];omega
    ·obtain rfl:k=l.length:=by omega
     have HE:Hid (R=0):=Lib.hid (by
      have e:typB t (rsV l)=true:=all_yes (by rw[rsV_len];exact H.out);rw[HR2.out,e];rfl)
     go_wp2;go_ret;exact⟨by rw[HE.out];rfl,hbr⟩
end Go.Proofs.YtjhbeecmdgglgaaGreatDoor
