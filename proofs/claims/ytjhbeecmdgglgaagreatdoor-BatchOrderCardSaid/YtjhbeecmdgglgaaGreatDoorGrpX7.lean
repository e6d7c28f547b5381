/-Plans: form. -/
import Derived.Test.YtjhbeecmdgglgaaGreatDoorGrpX6
set_option linter.unusedSimpArgs false
set_option linter.unusedVariables false
namespace Go.Proofs.YtjhbeecmdgglgaaGreatDoor
open Go.RowKit Go.Maps
def pairOk (left right:List Int) (q:Int×Int):Bool:=left.getD q.1.toNat 0==right.getD q.2.toNat 0
def formB (p:Pl):Bool:= !(decide (p.high<p.low))&&((p.lkeys.length==p.rkeys.length)&&(unlikeB p.lkeys p.left.length&&(unlikeB p.rkeys p.right.length&&(unlikeB p.group (p.left++p.right).length&&(allB (pairOk p.left p.right) (p.lkeys.zip p.rkeys)&&allB (aggOk (p.left++p.right)) p.aggs)))))
theorem unl_range {n:Int}: ∀ {l seen:List Int},unlR n seen l=true→ ∀x∈l,0≤x∧x<n
 |[],_,_=>by simp
 |x::r,seen,h=>by
  simp only[unlR,Bool.and_eq_true]at h;obtain⟨⟨h1,-⟩,h3⟩:=h;intro y hy;rcases List.mem_cons.1 hy with rfl|hy
  ·have:=btw_of h1;omega
  ·exact unl_range h3 y hy
set_option maxHeartbeats 4000000 in
set_option maxRecDepth 10000 in
theorem form_any (p:Pl)(w:World)(h:p.ok w)(hs:p.short)(hf:p.fit):
 Calls Tryz.prog 100 #[.agg #[.int .i64 p.kind,.int .i64 p.mode,.int .i64 p.low,.int .i64 p.high,.int .i64 p.size,.int .i64 p.limit,p.vl,p.vr,p.vk,p.vq,.bool p.grouped,p.vg,p.va]] w fun e w'=>e= .returned (.bool (formB p))∧Below w.heap.size w w':=by
 have E:Hid (formB p=(!(decide (p.high<p.low))&&((p.lkeys.length==p.rkeys.length)&&(unlikeB p.lkeys p.left.length&&(unlikeB p.rkeys p.right.length&&(unlikeB p.group (p.left++p.right).length&&(allB (pairOk p.left p.right) (p.lkeys.zip p.rkeys)&&allB (aggOk (p.left++p.right)) p.aggs))))))):=Lib.hid rfl;generalize formB p=R at E⊢;have HL:=Lib.hid h.l;have HR:=Lib.hid h.r;have HK:=Lib.hid h.k;have HQ:=Lib.hid h.q;have HG:=Lib.hid h.g;have HA:=Lib.hid h.a;have FK:=Lib.hid hf.k;have FQ:=Lib.hid hf.q;have FG:=Lib.hid hf.g;obtain⟨l1,l2,r1,r2,k1,k2,q1,q2,g1,a1⟩:=hs;clear h hf;obtain⟨kind,mode,low,high,size,limit,vl,vr,vk,vq,grouped,vg,va,left,right,lkeys,rkeys,group,aggs⟩:=p;simp only at HL HR HK HQ HG HA FK FQ FG E l1 l2 r1 r2 k1 k2 q1 q2 g1 a1⊢;obtain⟨A0,c0,rfl,n0,m0,-⟩:=id HL.out;obtain⟨A1,c1,rfl,n1,m1,-⟩:=id HR.out;obtain⟨A2,c2,rfl,n2,m2,-⟩:=id HK.out;obtain⟨A3,c3,rfl,n3,m3,-⟩:=id HQ.out;obtain⟨A4,c4,rfl,n4,m4,-⟩:=id HG.out;obtain⟨A5,c5,rfl,n5,m5,-⟩:=id HA.out;have hB:=below_trans (below_alloc w (.cells #[.int .i64 kind,.int .i64 mode,.int .i64 low,.int .i64 high,.int .i64 size,.int .i64 limit,.slice A0 left.length c0,.slice A1 right.length c1,.slice A2 lkeys.length c2,.slice A3 rkeys.length c3,.bool grouped,.slice A4 group.length c4,.slice A5 aggs.length c5] 25)) (below_alloc _ (.cells #[.slice A0 left.length c0,.slice A1 right.length c1] 22));have HT:=Lib.hid (two_sl1 w (.cells #[.int .i64 kind,.int .i64 mode,.int .i64 low,.int .i64 high,.int .i64 size,.int .i64 limit,.slice A0 left.length c0,.slice A1 right.length c1,.slice A2 lkeys.length c2,.slice A3 rkeys.length c3,.bool grouped,.slice A4 group.length c4,.slice A5 aggs.length c5] 25) (.slice A0 left.length c0) (.slice A1 right.length c1));have KP:=new_first w 25 #[.int .i64 kind,.int .i64 mode,.int .i64 low,.int .i64 high,.int .i64 size,.int .i64 limit,.slice A0 left.length c0,.slice A1 right.length c1,.slice A2 lkeys.length c2,.slice A3 rkeys.length c3,.bool grouped,.slice A4 group.length c4,.slice A5 aggs.length c5] (.cells #[.slice A0 left.length c0,.slice A1 right.length c1] 22);have hz:(left++right).length≤8:=by rw[List.length_append];omega
 have hz1:1≤(left++right).length:=by rw[List.length_append];omega
 unfold maxLen at m0 m1 m2 m3 m4 m5;go_enter Tryz.func100,Tryz.ntmps100
 go_wp2_with fail
 refine(concat_any _ _ _ left right _ HT.out (HL.out.below hB) (HR.out.below hB) (by omega) (by omega)).mono ?_;rintro e w1 ⟨v1,rfl,hs1,-,hb1⟩;generalize ht:left++right=t at hs1 hz hz1 E;have HTT:=Lib.hid ht;clear ht;have HS1:=Lib.hid hs1;obtain⟨A6,c6,rfl,n6,m6,-⟩:=hs1;unfold maxLen at m6;have P1:=(KP.below hb1).alloc (.cells #[.slice A6 t.length c6] 22);have T1:=Blk.new w1 22 #[.slice A6 t.length c6];have HS1':=Lib.hid (HS1.out.below (below_alloc w1 (.cells #[.slice A6 t.length c6] 22)));have hB1:=below_trans (below_trans hB hb1) (below_alloc w1 (.cells #[.slice A6 t.length c6] 22));clear hB hb1 KP HS1 HT;have y1_2:=P1.cell 2 _ rfl;have y1_3:=P1.cell 3 _ rfl;have y1_6:=P1.cell 6 _ rfl;have y1_7:=P1.cell 7 _ rfl;have y1_8:=P1.cell 8 _ rfl;have y1_9:=P1.cell 9 _ rfl;have y1_11:=P1.cell 11 _ rfl;have y1_12:=P1.cell 12 _ rfl;have t0:=T1.cell 0 _ rfl;by_cases o1:high<low
 ·have e:=E.out
  simp only[decide_eq_true o1,Bool.not_true,Bool.not_false,Bool.true_and,Bool.false_and]at e;have EE:=Lib.hid e;clear e;go_wp2;go_ret;exact⟨ret_bool (by rw[EE.out]),hB1⟩
 ·have do1:decide (high<low)=false:=by simpa using o1
  have e:=E.out;simp only[do1,Bool.not_true,Bool.not_false,Bool.true_and,Bool.false_and]at e;have E2:=Lib.hid e;clear e;clear E do1;by_cases o2:lkeys.length=rkeys.length
  ·have b2:((lkeys.length:Int)==(rkeys.length:Int))=true:=by simp[o2]
   have b2':=bne_of b2;simp only[Bool.not_true]at b2';have hkq:lkeys.length≤rkeys.length:=by omega
   have e:=E2.out;simp only[show(lkeys.length==rkeys.length)=true from by simp[o2],Bool.not_true,Bool.not_false,Bool.true_and,Bool.false_and]at e;have E3:=Lib.hid e;clear e;have HO2:=Lib.hid o2;clear E2 o2;cases u1:unlikeB lkeys left.length
   ·have e:=E3.out
    simp only[u1,Bool.not_true,Bool.not_false,Bool.true_and,Bool.false_and]at e;have EE:=Lib.hid e;clear e
    go_wp2_with fail
    refine(unlike_any _ lkeys _ _ (HK.out.below hB1) (by omega) FK.out).mono ?_;rw[u1];rintro e w2 ⟨rfl,hb2⟩;go_wp2;go_ret;exact⟨ret_bool (by rw[EE.out]),below_trans hB1 hb2⟩
   ·have e:=E3.out
    simp only[u1,Bool.not_true,Bool.not_false,Bool.true_and,Bool.false_and]at e;have E4:=Lib.hid e;clear e;have U1:=Lib.hid u1;clear E3 u1
    go_wp2_with fail
    refine(unlike_any _ lkeys _ _ (HK.out.below hB1) (by omega) FK.out).mono ?_;rw[U1.out];rintro e w2 ⟨rfl,hb2⟩;have P2:=P1.below hb2;have T2:=T1.below hb2;have HS2:=Lib.hid (HS1'.out.below hb2);have hB2:=below_trans hB1 hb2;clear P1 T1 hb2 hB1 t0 y1_2 y1_3 y1_6 y1_7 y1_8 y1_9 y1_11 y1_12 HS1';have y2_2:=P2.cell 2 _ rfl;have y2_3:=P2.cell 3 _ rfl;have y2_6:=P2.cell 6 _ rfl;have y2_7:=P2.cell 7 _ rfl;have y2_8:=P2.cell 8 _ rfl;have y2_9:=P2.cell 9 _ rfl;have y2_11:=P2.cell 11 _ rfl;have y2_12:=P2.cell 12 _ rfl;have t0:=T2.cell 0 _ rfl;cases u2:unlikeB rkeys right.length
    ·have e:=E4.out
     simp only[u2,Bool.not_true,Bool.not_false,Bool.true_and,Bool.false_and]at e;have EE:=Lib.hid e;clear e
     go_wp2_with fail
     refine(unlike_any _ rkeys _ _ (HQ.out.below hB2) (by omega) FQ.out).mono ?_;rw[u2];rintro e w3 ⟨rfl,hb3⟩;go_wp2;go_ret;exact⟨ret_bool (by rw[EE.out]),below_trans hB2 hb3⟩
    ·have e:=E4.out
     simp only[u2,Bool.not_true,Bool.not_false,Bool.true_and,Bool.false_and]at e;have E5:=Lib.hid e;clear e;have U2:=Lib.hid u2;clear E4 u2
     go_wp2_with fail
     refine(unlike_any _ rkeys _ _ (HQ.out.below hB2) (by omega) FQ.out).mono ?_;rw[U2.out];rintro e w3 ⟨rfl,hb3⟩;have P3:=P2.below hb3;have T3:=T2.below hb3;have HS3:=Lib.hid (HS2.out.below hb3);have hB3:=below_trans hB2 hb3;clear P2 T2 hb3 hB2 t0 y2_2 y2_3 y2_6 y2_7 y2_8 y2_9 y2_11 y2_12 HS2;have y3_2:=P3.cell 2 _ rfl;have y3_3:=P3.cell 3 _ rfl;have y3_6:=P3.cell 6 _ rfl;have y3_7:=P3.cell 7 _ rfl;have y3_8:=P3.cell 8 _ rfl;have y3_9:=P3.cell 9 _ rfl;have y3_11:=P3.cell 11 _ rfl;have y3_12:=P3.cell 12 _ rfl;have t0:=T3.cell 0 _ rfl;cases u3:unlikeB group t.length
     ·have e:=E5.out
      simp only[u3,Bool.not_true,Bool.not_false,Bool.true_and,Bool.false_and]at e;have EE:=Lib.hid e;clear e
      go_wp2_with fail
      refine(unlike_any _ group _ _ (HG.out.below hB3) (by omega) FG.out).mono ?_;rw[u3];rintro e w4 ⟨rfl,hb4⟩;go_wp2;go_ret;exact⟨ret_bool (by rw[EE.out]),below_trans hB3 hb4⟩
     ·have e:=E5.out
      simp only[u3,Bool.not_true,Bool.not_false,Bool.true_and,Bool.false_and]at e;have E6:=Lib.hid e;clear e;have U3:=Lib.hid u3;clear E5 u3
      go_wp2_with fail
      refine(unlike_any _ group _ _ (HG.out.below hB3) (by omega) FG.out).mono ?_;rw[U3.out];rintro e w4 ⟨rfl,hb4⟩;have P4:=P3.below hb4;have T4:=T3.below hb4;have HS4:=Lib.hid (HS3.out.below hb4);have hB4:=below_trans hB3 hb4;clear P3 T3 hb4 hB3 t0 y3_2 y3_3 y3_6 y3_7 y3_8 y3_9 y3_11 y3_12 HS3;have y4_2:=P4.cell 2 _ rfl;have y4_3:=P4.cell 3 _ rfl;have y4_6:=P4.cell 6 _ rfl;have y4_7:=P4.cell 7 _ rfl;have y4_8:=P4.cell 8 _ rfl;have y4_9:=P4.cell 9 _ rfl;have y4_11:=P4.cell 11 _ rfl;have y4_12:=P4.cell 12 _ rfl
      go_wp2_with fail
      clear y4_2 y4_3 y4_6 y4_7 y4_8 y4_9 y4_11 y4_12
      go_loopw[4,5,55] (fun _ _ i wr=> ∃k:Nat,k≤lkeys.length∧i= .int .i64 k∧Hid (∀q∈(lkeys.zip rkeys).take k,pairOk left right q=true)∧Below w4.heap.size w4 wr) (fun _ _ i _=>lkeys.length-(intOf i).toNat)
      case atStart=>exact⟨0,by omega,rfl,by simp[Hid],Below.refl _ _⟩
      case round=>
       obtain⟨k,hk,rfl,H,hbw⟩:=hrel;have hBw:=hB4.trans (hbw.mono hB4.size);have P5:=P4.below hbw;have T5:=T4.below hbw;by_cases hlt:k<lkeys.length
       ·have hltq:k<rkeys.length:=by omega
        obtain⟨bk,ok,hAk,-,hck⟩:=int_at HK.out rfl hlt;obtain⟨bq,oq,hAq,-,hcq⟩:=int_at HQ.out rfl hltq;have gk:lkeys[k]?=some (lkeys.getD k 0):=by simp[hlt]
        have gq:rkeys[k]?=some (rkeys.getD k 0):=by simp[hltq]
        have d1:=hck _ hBw;have d2:=hcq _ hBw;have rk:=unl_range U1.out _ (List.mem_of_getElem? gk);have rq:=unl_range U2.out _ (List.mem_of_getElem? gq);have GZ:=Lib.hid (show(lkeys.zip rkeys)[k]?=some (lkeys.getD k 0,rkeys.getD k 0)from by rw[List.getElem?_zip_eq_some];exact⟨gk,gq⟩);generalize lkeys.getD k 0=x at d1 rk GZ;generalize rkeys.getD k 0=y at d2 rq GZ;clear gk gq hck hcq;obtain⟨a,rfl⟩: ∃a:Nat,x=a:=⟨x.toNat,by omega⟩;obtain⟨b,rfl⟩: ∃b:Nat,y=b:=⟨y.toNat,by omega⟩;have ra:a<left.length:=by omega
        have rb:b<right.length:=by omega
        obtain⟨bl,ol,hAl,-,hcl⟩:=int_at HL.out rfl ra;obtain⟨br,orr,hAr,-,hcr⟩:=int_at HR.out rfl rb;have d3:=hcl _ hBw;have d4:=hcr _ hBw;have GP:=Lib.hid (show pairOk left right ((a:Int),(b:Int))=(left.getD a 0==right.getD b 0)from rfl);generalize left.getD a 0=X at d3 GP;generalize right.getD b 0=Y at d4 GP;clear hcl hcr rk rq;subst hAk hAq hAl hAr;have k0:(0:Int)≤(k:Int):=by omega
        have k1:(k:Int)<(lkeys.length:Int):=by omega
        have k2':(k:Int)<(rkeys.length:Int):=by omega
        have a0:(0:Int)≤(a:Int):=by omega
        have a1':(a:Int)<(left.length:Int):=by omega
        have b0:(0:Int)≤(b:Int):=by omega
        have b1':(b:Int)<(right.length:Int):=by omega
        have y6:=P5.cell 6 _ rfl;have y7:=P5.cell 7 _ rfl;have y9:=P5.cell 9 _ rfl;cases hq:(X==Y)
        ·have g3:=bne_of hq
         simp only[Bool.not_false]at g3;have e1:=Lib.hid (all_no (f:=pairOk left right) GZ.out (by rw[GP.out,hq]));have e:=E6.out;simp only[e1.out,Bool.not_true,Bool.not_false,Bool.true_and,Bool.false_and]at e;have EE:=Lib.hid e;clear e
         go_wp2_with fail
         go_quiet (fail)
         go_wp2;go_ret;exact⟨ret_bool (by rw[EE.out]),below_drewN hBw _⟩
        ·have g3:=bne_of hq
         simp only[Bool.not_true]at g3;have e1:=Lib.hid (all_step (f:=pairOk left right) H.out GZ.out (by rw[GP.out,hq]))
         go_wp2_with fail
         go_quiet (fail)
         go_wp2;go_roundw
         case rel=>exact⟨k+1,by omega,by go_num,e1.out,below_drewN hbw _⟩
         case measure=>simp[intOf];omega
       ·obtain rfl:k=lkeys.length:=by omega
        have e1:=Lib.hid (show allB (pairOk left right) (lkeys.zip rkeys)=true from all_yes (by
         have hzl:(lkeys.zip rkeys).length=lkeys.length:=by rw[List.length_zip];omega
         rw[hzl];exact H.out))
        have e:=E6.out;simp only[e1.out,Bool.not_true,Bool.not_false,Bool.true_and,Bool.false_and]at e;have EE:=Lib.hid e;clear e;have y12:=P5.cell 12 _ rfl
        go_wp2_with fail
        refine(allForm_any _ aggs t _ _ _ (HA.out.below hBw) T5 (HS4.out.below hbw) (by omega)).mono ?_;rintro e w6 ⟨rfl,hb6⟩;go_wp2;go_ret;exact⟨ret_bool (by rw[EE.out]),below_trans hBw hb6⟩
  ·have b2:((lkeys.length:Int)==(rkeys.length:Int))=false:=by simp;omega
   have b2':=bne_of b2;simp only[Bool.not_false]at b2';have e:=E2.out;simp only[show(lkeys.length==rkeys.length)=false from by simp[o2],Bool.not_true,Bool.not_false,Bool.true_and,Bool.false_and]at e;have EE:=Lib.hid e;clear e;clear o2;go_wp2;go_ret;exact⟨ret_bool (by rw[EE.out]),hB1⟩
end Go.Proofs.YtjhbeecmdgglgaaGreatDoor
