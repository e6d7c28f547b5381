/-Views: the walk of the reference's CheckView. -/
import Derived.Test.YtjhbeecmdgglgaaGreatDoorGrpX14
import Derived.Test.YtjhbeecmdgglgaaGreatDoorGrpX15
set_option linter.unusedSimpArgs false
set_option linter.unusedVariables false
namespace Go.Proofs.YtjhbeecmdgglgaaGreatDoor
open Go.RowKit
set_option maxHeartbeats 8000000 in
set_option maxRecDepth 10000 in
theorem rcheckView_any (v:Value)(l:List Cnt)(w:World)(h:View w v l)(hf:FineV l):
 Calls Tryz.prog 64 #[v] w fun e w'=>e= .returned (.int .i64 (chkV l))∧Below w.heap.size w w':=by
 have HV:=Lib.hid h;have HF:=Lib.hid hf;obtain⟨A,c,rfl,h1,h2,-⟩:=h.sl;clear h hf;unfold maxLen at h2;by_cases hn:4096<l.length
 ·have e1:=Lib.hid (show chkV l=2 from if_pos hn)
  go_enter Tryz.func64,Tryz.ntmps64
  go_wp2;go_ret;exact⟨ret_int (by rw[e1.out]),Below.refl _ _⟩
 ·have HBAD:=Lib.hid (fun k=>chk_bad (l:=l) (k:=k) hn)
  have HGOOD:=Lib.hid (chk_good (l:=l) hn);generalize chkV l=R at HBAD HGOOD⊢;go_enter Tryz.func64,Tryz.ntmps64
  go_wp2_with fail
  go_loopw[3] (fun i wr=> ∃k:Nat,k≤l.length∧i= .int .i64 k∧Hid (∀j∈(List.range l.length).take k,okAt l j=true)∧Below w.heap.size w wr) (fun i _=>l.length-(intOf i).toNat)
  case atStart=>exact⟨0,by omega,rfl,by simp[Hid],Below.refl _ _⟩
  case round=>
   obtain⟨k,hk,rfl,H,hbw⟩:=hrel;by_cases hlt:k<l.length
   ·have hx:=List.getElem?_eq_getElem (l:=l) hlt
    generalize l[k]=x at hx;obtain⟨g,off,rfl,-,hc⟩:=cnt_at HV.out.sl rfl hx;have HCC:=Lib.hid hc;obtain⟨d1,d2⟩:=hc _ hbw;have hmem:=List.mem_of_getElem? hx;have HRW:=Lib.hid (HV.out.rows x hmem);have HFX:=Lib.hid (HF.out.rows x hmem);have hxn:=HF.out.nums x hmem;have HX:=Lib.hid hx;clear hx hc hmem;obtain⟨xv,xr,xn⟩:=x;simp only at d1 d2 HRW HFX hxn HCC;obtain⟨Ax,cx,rfl,-⟩:=id HRW.out;have HSX:=Lib.hid ((HRW.out.below hbw).drew);have k0:(0:Int)≤(k:Int):=by omega
    have k1:(k:Int)<(l.length:Int):=by omega
    by_cases hq:keyErr xr=0
    ·have hb':(keyErr xr != 0)=false:=bneF hq
     have HGX:=Lib.hid (goodR_of HFX.out hq);have hokc:okC ⟨.slice Ax xr.length cx,xr,xn⟩=btw xn 1 1073741824:=by simp[okC,hq]
     have HQ:=Lib.hid hq;clear hq;have hD:xn<1∨(1≤xn∧1073741824<xn)∨(1≤xn∧xn≤1073741824):=by omega
     rcases hD with hn1|⟨hn1,hn2⟩|⟨hn1,hn2⟩
     ·have HB0:=Lib.hid (btw_no (n:=xn) (lo:=1) (hi:=1073741824) (by omega))
      have EE:=Lib.hid (HBAD.out k hlt (by cases k with|zero=>rw[okAt_zero HX.out,hokc,HB0.out]|succ k=>rw[okAt_succ HX.out (List.getElem?_eq_getElem (show k<l.length by omega)),hokc,HB0.out];rfl));clear HGX hokc HB0;have q1:decide (xn<1)=true:=decide_eq_true hn1;clear hn1 hxn
      go_wp2_with fail
      refine wp_region_held_drew (S:=(fun w'=>w'.cell? ⟨g,off+k*2,none⟩=some (.slice Ax xr.length cx)∧w'.cell? ⟨g,off+k*2+1,none⟩=some (.int .i64 xn))) (by kernel_rfl) ⟨d1,d2⟩ (fun hHeld=> ?_);refine tk 0 ?_;refine tk 1 ?_;refine tk 2 ?_;refine tk 3 ?_;refine tk 4 ?_;refine tc 5 ?_;intro K hK;go_simp;refine(keyError_any _ xr _ HSX.out HFX.out.small).mono ?_;rw[HQ.out];rintro e w2 ⟨rfl,hb2⟩;have hbw2:=below_trans hbw.drew hb2;have z2:=HCC.out _ hbw2
      go_wp2_with fail
      refine hK.out _ _ z2 (fun hHeld5=> ?_);clear hK K;refine tk 6 ?_;refine tk 7 ?_;refine tk 8 ?_;refine tk 9 ?_;refine tk 10 ?_;refine tk 11 ?_;refine tk 12 ?_;refine tk 13 ?_;refine tk 14 ?_;refine tk 15 ?_;refine tn 16 ?_;refine tn 17 ?_;refine tn 18 ?_;refine tn 19 ?_;refine tn 20 ?_;refine tn 21 ?_;refine tk 22 ?_;refine tk 23 ?_;refine tn 24 ?_;refine tn 25 ?_;refine tn 26 ?_;refine tn 27 ?_;refine tn 28 ?_;refine tn 29 ?_;refine tn 30 ?_;refine tn 31 ?_;refine tn 32 ?_;refine tn 33 ?_;refine tn 34 ?_;refine tn 35 ?_;refine tn 36 ?_;refine tn 37 ?_;refine tn 38 ?_;refine tn 39 ?_;refine tn 40 ?_;refine tk 41 ?_;refine td ?_
      all_goals
       go_wp2;go_ret;exact⟨ret_int (by rw[EE.out]),hbw2⟩
     ·have HB0:=Lib.hid (btw_no (n:=xn) (lo:=1) (hi:=1073741824) (by omega))
      have EE:=Lib.hid (HBAD.out k hlt (by cases k with|zero=>rw[okAt_zero HX.out,hokc,HB0.out]|succ k=>rw[okAt_succ HX.out (List.getElem?_eq_getElem (show k<l.length by omega)),hokc,HB0.out];rfl));clear HGX hokc HB0;have q1:decide (xn<1)=false:=decide_eq_false (by omega);have q2:decide (1073741824<xn)=true:=decide_eq_true hn2;clear hn1 hn2 hxn
      go_wp2_with fail
      refine wp_region_held_drew (S:=(fun w'=>w'.cell? ⟨g,off+k*2,none⟩=some (.slice Ax xr.length cx)∧w'.cell? ⟨g,off+k*2+1,none⟩=some (.int .i64 xn))) (by kernel_rfl) ⟨d1,d2⟩ (fun hHeld=> ?_);refine tk 0 ?_;refine tk 1 ?_;refine tk 2 ?_;refine tk 3 ?_;refine tk 4 ?_;refine tc 5 ?_;intro K hK;go_simp;refine(keyError_any _ xr _ HSX.out HFX.out.small).mono ?_;rw[HQ.out];rintro e w2 ⟨rfl,hb2⟩;have hbw2:=below_trans hbw.drew hb2;have z2:=HCC.out _ hbw2
      go_wp2_with fail
      refine hK.out _ _ z2 (fun hHeld5=> ?_);clear hK K;refine tk 6 ?_;refine tk 7 ?_;refine tk 8 ?_;refine tk 9 ?_;refine tk 10 ?_;refine tk 11 ?_;refine tk 12 ?_;refine tk 13 ?_;refine tk 14 ?_;refine tk 15 ?_;refine tk 16 ?_;refine tk 17 ?_;refine tk 18 ?_;refine tk 19 ?_;refine tk 20 ?_;refine tk 21 ?_;refine tk 22 ?_;refine tk 23 ?_;refine tn 24 ?_;refine tn 25 ?_;refine tn 26 ?_;refine tn 27 ?_;refine tn 28 ?_;refine tn 29 ?_;refine tn 30 ?_;refine tn 31 ?_;refine tn 32 ?_;refine tn 33 ?_;refine tn 34 ?_;refine tn 35 ?_;refine tn 36 ?_;refine tn 37 ?_;refine tn 38 ?_;refine tn 39 ?_;refine tn 40 ?_;refine tk 41 ?_;refine td ?_
      all_goals
       go_wp2;go_ret;exact⟨ret_int (by rw[EE.out]),hbw2⟩
     ·have HB0:=Lib.hid (btw_yes hn1 hn2)
      rcases Nat.eq_zero_or_pos k with hk0|hpos
      ·have hno: ¬(0:Int)<(k:Int):=by omega
       have hox:okAt l k=okC ⟨.slice Ax xr.length cx,xr,xn⟩:=by have:=HX.out;rw[hk0]at this⊢;exact okAt_zero this
       have HZ:Hid (∀j∈(List.range l.length).take (k+1),okAt l j=true):=Lib.hid (all_step (f:=okAt l) H.out (range_at hlt) (by rw[hox,hokc,HB0.out]));have q1:decide (xn<1)=false:=decide_eq_false (by omega);have q2:decide (1073741824<xn)=false:=decide_eq_false (by omega);have q3:decide ((0:Int)<(k:Int))=false:=decide_eq_false hno;have q3':decide (0<k)=false:=decide_eq_false (by omega);clear HGX hokc HB0 hox hk0 hn1 hn2 hxn hno
       go_wp2_with fail
       refine wp_region_held_drew (S:=(fun w'=>w'.cell? ⟨g,off+k*2,none⟩=some (.slice Ax xr.length cx)∧w'.cell? ⟨g,off+k*2+1,none⟩=some (.int .i64 xn))) (by kernel_rfl) ⟨d1,d2⟩ (fun hHeld=> ?_);refine tk 0 ?_;refine tk 1 ?_;refine tk 2 ?_;refine tk 3 ?_;refine tk 4 ?_;refine tc 5 ?_;intro K hK;go_simp;refine(keyError_any _ xr _ HSX.out HFX.out.small).mono ?_;rw[HQ.out];rintro e w2 ⟨rfl,hb2⟩;have hbw2:=below_trans hbw.drew hb2;have z2:=HCC.out _ hbw2
       go_wp2_with fail
       refine hK.out _ _ z2 (fun hHeld5=> ?_);clear hK K;refine tk 6 ?_;refine tk 7 ?_;refine tk 8 ?_;refine tk 9 ?_;refine tk 10 ?_;refine tk 11 ?_;refine tk 12 ?_;refine tk 13 ?_;refine tk 14 ?_;refine tk 15 ?_;refine tk 16 ?_;refine tk 17 ?_;refine tk 18 ?_;refine tk 19 ?_;refine tk 20 ?_;refine tk 21 ?_;refine tk 22 ?_;refine tk 23 ?_;refine tk 24 ?_;refine tk 25 ?_;refine tk 26 ?_;refine tn 27 ?_;refine tn 28 ?_;refine tn 29 ?_;refine tn 30 ?_;refine tn 31 ?_;refine tn 32 ?_;refine tn 33 ?_;refine tn 34 ?_;refine tn 35 ?_;refine tn 36 ?_;refine tn 37 ?_;refine tn 38 ?_;refine tn 39 ?_;refine tk 40 ?_;refine tk 41 ?_;refine td ?_
       all_goals
        go_wp2;go_roundw
        case rel=>exact⟨k+1,by omega,by go_num,HZ.out,hbw2⟩
        case measure=>simp[intOf];omega
      ·obtain⟨m,hkm⟩: ∃m,k=m+1:=⟨k-1,by omega⟩
       have hml:m<l.length:=by omega
       have hd:=List.getElem?_eq_getElem hml;generalize l[m]=d at hd
       have HGD:Hid (GoodR d.r):=by
        have:=H.out m (by rw[List.mem_take_iff_getElem];exact⟨m,by simp;omega,by simp⟩)
        have hck:okC d=true:=by
         cases m with
         |zero=>rw[okAt_zero hd]at this;exact this
         |succ m=>rw[okAt_succ hd (List.getElem?_eq_getElem (show m<l.length by omega)),Bool.and_eq_true]at this;exact this.1
        unfold okC at hck;rw[Bool.and_eq_true,beq_iff_eq]at hck;exact Lib.hid (goodR_of (HF.out.rows d (List.mem_of_getElem? hd)) hck.1)
       obtain⟨g',off',hA',-,hcd⟩:=cnt_at HV.out.sl rfl hd;injection hA' with hA';injection hA' with e1 e2;subst e1 e2;have HCD:=Lib.hid (fun w' hb=>(hcd w' hb).1);have HRD:=Lib.hid (HV.out.rows d (List.mem_of_getElem? hd));have HOK:=Lib.hid (okAt_succ (k:=m) (by rw[←hkm];exact HX.out) hd);rw[←hkm]at HOK;have hkm':((k:Int)-1)=(m:Int):=by omega
       have hpos':(0:Int)<(k:Int):=by omega
       have m0:(0:Int)≤(m:Int):=by omega
       have m1:(m:Int)<(l.length:Int):=by omega
       have wm:IntKind.i64.wrap (m:Int)=(m:Int):=by rw[IntKind.wrap_i64];omega
       have wk:IntKind.i64.wrap ((k:Int)-1)=(m:Int):=by rw[IntKind.wrap_i64];omega
       clear hcd hkm hd;obtain⟨dv,dr,dn⟩:=d;simp only at HGD HCD HRD HOK;obtain⟨Ad,cd,rfl,-⟩:=id HRD.out;have q1:decide (xn<1)=false:=decide_eq_false (by omega);have q2:decide (1073741824<xn)=false:=decide_eq_false (by omega);have q3:decide ((0:Int)<(k:Int))=true:=decide_eq_true hpos';have q3':decide (0<k)=true:=decide_eq_true hpos;clear hn1 hn2 hxn hpos';have d3:=HCD.out _ hbw;by_cases hs:rowsF dr xr<0
       ·have HZ:Hid (∀j∈(List.range l.length).take (k+1),okAt l j=true):=Lib.hid (all_step (f:=okAt l) H.out (range_at hlt) (by rw[HOK.out,hokc,HB0.out,decide_eq_true hs];rfl))
        have hd3:decide (0≤rowsF dr xr)=false:=decide_eq_false (by omega);clear HGX hokc HB0 HOK HGD
        go_wp2_with fail
        refine wp_region_held_drew (S:=(fun w'=>w'.cell? ⟨g,off+k*2,none⟩=some (.slice Ax xr.length cx)∧w'.cell? ⟨g,off+k*2+1,none⟩=some (.int .i64 xn)∧w'.cell? ⟨g,off+m*2,none⟩=some (.slice Ad dr.length cd))) (by kernel_rfl) ⟨d1,d2,d3⟩ (fun hHeld=> ?_);refine tk 0 ?_;refine tk 1 ?_;refine tk 2 ?_;refine tk 3 ?_;refine tk 4 ?_;refine tc 5 ?_;intro K hK;go_simp;refine(keyError_any _ xr _ HSX.out HFX.out.small).mono ?_;rw[HQ.out];rintro e w2 ⟨rfl,hb2⟩;have hbw2:=below_trans hbw.drew hb2;have z2:=And.intro (HCC.out _ hbw2).1 (And.intro (HCC.out _ hbw2).2 (HCD.out _ hbw2))
        go_wp2_with fail
        refine hK.out _ _ z2 (fun hHeld5=> ?_);clear hK K;refine tk 6 ?_;refine tk 7 ?_;refine tk 8 ?_;refine tk 9 ?_;refine tk 10 ?_;refine tk 11 ?_;refine tk 12 ?_;refine tk 13 ?_;refine tk 14 ?_;refine tk 15 ?_;refine tk 16 ?_;refine tk 17 ?_;refine tk 18 ?_;refine tk 19 ?_;refine tk 20 ?_;refine tk 21 ?_;refine tk 22 ?_;refine tk 23 ?_;refine tk 24 ?_;refine tk 25 ?_;refine tk 26 ?_;refine tk 27 ?_;refine tk 28 ?_;refine tk 29 ?_;refine tk 30 ?_;refine tk 31 ?_;refine tk 32 ?_;refine tk 33 ?_;refine tk 34 ?_;refine tk 35 ?_;refine tk 36 ?_;refine tk 37 ?_;refine tc 38 ?_;intro K hK;go_simp;refine(rrows_any _ _ dr xr _ (HRD.out.below hbw2) (HRW.out.below hbw2)).mono ?_;rintro e w3 ⟨rfl,hb3⟩;have hbw3:=below_trans hbw2 hb3;have z3:=And.intro (HCC.out _ hbw3).1 (And.intro (HCC.out _ hbw3).2 (HCD.out _ hbw3))
        go_wp2_with fail
        refine hK.out _ _ z3 (fun hHeld38=> ?_);clear hK K;refine tk 39 ?_;refine tk 40 ?_;refine tk 41 ?_;refine td ?_
        all_goals
         go_wp2;go_roundw
         case rel=>exact⟨k+1,by omega,by go_num,HZ.out,hbw3⟩
         case measure=>simp[intOf];omega
       ·have EE:=Lib.hid (HBAD.out k hlt (by rw[HOK.out,decide_eq_false hs,Bool.and_false]))
        have hd3:decide (0≤rowsF dr xr)=true:=decide_eq_true (by omega);clear HGX hokc HB0 HOK HGD
        go_wp2_with fail
        refine wp_region_held_drew (S:=(fun w'=>w'.cell? ⟨g,off+k*2,none⟩=some (.slice Ax xr.length cx)∧w'.cell? ⟨g,off+k*2+1,none⟩=some (.int .i64 xn)∧w'.cell? ⟨g,off+m*2,none⟩=some (.slice Ad dr.length cd))) (by kernel_rfl) ⟨d1,d2,d3⟩ (fun hHeld=> ?_);refine tk 0 ?_;refine tk 1 ?_;refine tk 2 ?_;refine tk 3 ?_;refine tk 4 ?_;refine tc 5 ?_;intro K hK;go_simp;refine(keyError_any _ xr _ HSX.out HFX.out.small).mono ?_;rw[HQ.out];rintro e w2 ⟨rfl,hb2⟩;have hbw2:=below_trans hbw.drew hb2;have z2:=And.intro (HCC.out _ hbw2).1 (And.intro (HCC.out _ hbw2).2 (HCD.out _ hbw2))
        go_wp2_with fail
        refine hK.out _ _ z2 (fun hHeld5=> ?_);clear hK K;refine tk 6 ?_;refine tk 7 ?_;refine tk 8 ?_;refine tk 9 ?_;refine tk 10 ?_;refine tk 11 ?_;refine tk 12 ?_;refine tk 13 ?_;refine tk 14 ?_;refine tk 15 ?_;refine tk 16 ?_;refine tk 17 ?_;refine tk 18 ?_;refine tk 19 ?_;refine tk 20 ?_;refine tk 21 ?_;refine tk 22 ?_;refine tk 23 ?_;refine tk 24 ?_;refine tk 25 ?_;refine tk 26 ?_;refine tk 27 ?_;refine tk 28 ?_;refine tk 29 ?_;refine tk 30 ?_;refine tk 31 ?_;refine tk 32 ?_;refine tk 33 ?_;refine tk 34 ?_;refine tk 35 ?_;refine tk 36 ?_;refine tk 37 ?_;refine tc 38 ?_;intro K hK;go_simp;refine(rrows_any _ _ dr xr _ (HRD.out.below hbw2) (HRW.out.below hbw2)).mono ?_;rintro e w3 ⟨rfl,hb3⟩;have hbw3:=below_trans hbw2 hb3;have z3:=And.intro (HCC.out _ hbw3).1 (And.intro (HCC.out _ hbw3).2 (HCD.out _ hbw3))
        go_wp2_with fail
        refine hK.out _ _ z3 (fun hHeld38=> ?_);clear hK K;refine tk 39 ?_;refine tk 40 ?_;refine tk 41 ?_;refine td ?_
        all_goals
         go_wp2;go_ret;exact⟨ret_int (by rw[EE.out]),hbw3⟩
    ·have HQ:Hid (keyErr xr=keyErr xr):=Lib.hid rfl
     have hb':=bneT hq
     have EE:=Lib.hid (HBAD.out k hlt (by
      have hc0:okC ⟨.slice Ax xr.length cx,xr,xn⟩=false:=by simp[okC,hq]
      cases k with
      |zero=>rw[okAt_zero HX.out,hc0]
      |succ k=>rw[okAt_succ HX.out (List.getElem?_eq_getElem (show k<l.length by omega)),hc0];rfl))
     clear hq
     go_wp2_with fail
     refine wp_region_held_drew (S:=(fun w'=>w'.cell? ⟨g,off+k*2,none⟩=some (.slice Ax xr.length cx)∧w'.cell? ⟨g,off+k*2+1,none⟩=some (.int .i64 xn))) (by kernel_rfl) ⟨d1,d2⟩ (fun hHeld=> ?_);refine tk 0 ?_;refine tk 1 ?_;refine tk 2 ?_;refine tk 3 ?_;refine tk 4 ?_;refine tc 5 ?_;intro K hK;go_simp;refine(keyError_any _ xr _ HSX.out HFX.out.small).mono ?_;rintro e w2 ⟨rfl,hb2⟩;have hbw2:=below_trans hbw.drew hb2;have z2:=HCC.out _ hbw2
     go_wp2_with fail
     refine hK.out _ _ z2 (fun hHeld5=> ?_);clear hK K;refine tk 6 ?_;refine tk 7 ?_;refine tn 8 ?_;refine tn 9 ?_;refine tn 10 ?_;refine tn 11 ?_;refine tn 12 ?_;refine tn 13 ?_;refine tk 14 ?_;refine tk 15 ?_;refine tn 16 ?_;refine tn 17 ?_;refine tn 18 ?_;refine tn 19 ?_;refine tn 20 ?_;refine tn 21 ?_;refine tk 22 ?_;refine tk 23 ?_;refine tn 24 ?_;refine tn 25 ?_;refine tn 26 ?_;refine tn 27 ?_;refine tn 28 ?_;refine tn 29 ?_;refine tn 30 ?_;refine tn 31 ?_;refine tn 32 ?_;refine tn 33 ?_;refine tn 34 ?_;refine tn 35 ?_;refine tn 36 ?_;refine tn 37 ?_;refine tn 38 ?_;refine tn 39 ?_;refine tn 40 ?_;refine tk 41 ?_;refine td ?_
     all_goals
      go_wp2;go_ret;exact⟨ret_int (by rw[EE.out]),hbw2⟩
   ·obtain rfl:k=l.length:=by omega
    have EE:=Lib.hid (HGOOD.out H.out);go_wp2;go_ret;exact⟨ret_int (by rw[EE.out]),hbw⟩
end Go.Proofs.YtjhbeecmdgglgaaGreatDoor
