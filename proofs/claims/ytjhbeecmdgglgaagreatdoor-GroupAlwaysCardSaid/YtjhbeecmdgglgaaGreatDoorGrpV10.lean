/-Plans: typesFine, form. Plans: form. Plans: Check. Plans: Out, and the reference's OutOf. Plans: Row, and the reference's RowError. Plain law of group -/
import Derived.Test.YtjhbeecmdgglgaaGreatDoorGrpV6
import Derived.Laws.EntriesVeiled
import Derived.Test.YtjhbeecmdgglgaaGreatDoorGrpV3
import Derived.Test.YtjhbeecmdgglgaaGreatDoorGrpV4
set_option linter.unusedSimpArgs false
set_option linter.unusedVariables false
namespace Go.Proofs.YtjhbeecmdgglgaaGreatDoor
open Go.RowKit Go.Maps
def I64 (l:List Int):Prop:= ∀x∈l,-9223372036854775808≤x∧x≤9223372036854775807
structure Pl.fit (p:Pl):Prop where
 l:I64 p.left
 r:I64 p.right
 k:I64 p.lkeys
 q:I64 p.rkeys
 g:I64 p.group
 a: ∀x∈p.aggs,(-9223372036854775808≤x.1∧x.1≤9223372036854775807)∧(-9223372036854775808≤x.2∧x.2≤9223372036854775807)
structure Pl.short (p:Pl):Prop where
 l1:1≤p.left.length
 l2:p.left.length≤4
 r1:1≤p.right.length
 r2:p.right.length≤4
 k1:1≤p.lkeys.length
 k2:p.lkeys.length≤4
 q1:1≤p.rkeys.length
 q2:p.rkeys.length≤4
 g:p.group.length≤8
 a:p.aggs.length≤4
def typesB (p:Pl):Bool:=allB (fun n=>btw n 1 3) (p.left++p.right)
theorem two_sl (W:World)(u v:Value):Sl (W.alloc (.cells #[u,v] 22)) (.slice (some ⟨W.heap.size,0,none⟩) 2 2) 2 [u,v]:=Sl.block (Blk.new W 22 #[u,v]) 2 2 (Nat.le_refl _) (by decide)
theorem two_sl1 (w:World)(o:Obj)(u v:Value):Sl ((w.alloc o).alloc (.cells #[u,v] 22)) (.slice (some ⟨w.heap.size+1,0,none⟩) 2 2) 2 [u,v]:=by
 have:=two_sl (w.alloc o) u v;rwa[World.size_alloc]at this
set_option maxHeartbeats 2000000 in
set_option maxRecDepth 10000 in
theorem typesFine_any (p:Pl)(w:World)(h:p.ok w)(hs:p.short):
 Calls Tryz.prog 99 #[.agg #[.int .i64 p.kind,.int .i64 p.mode,.int .i64 p.low,.int .i64 p.high,.int .i64 p.size,.int .i64 p.limit,p.vl,p.vr,p.vk,p.vq,.bool p.grouped,p.vg,p.va]] w fun e w'=>e= .returned (.bool (typesB p))∧Below w.heap.size w w':=by
 have HL:=Lib.hid h.l;have HR:=Lib.hid h.r;have hB:=below_trans (below_alloc w (.cells #[.int .i64 p.kind,.int .i64 p.mode,.int .i64 p.low,.int .i64 p.high,.int .i64 p.size,.int .i64 p.limit,p.vl,p.vr,p.vk,p.vq,.bool p.grouped,p.vg,p.va] 25)) (below_alloc _ (.cells #[p.vl,p.vr] 22));have HT:=Lib.hid (two_sl1 w (.cells #[.int .i64 p.kind,.int .i64 p.mode,.int .i64 p.low,.int .i64 p.high,.int .i64 p.size,.int .i64 p.limit,p.vl,p.vr,p.vk,p.vq,.bool p.grouped,p.vg,p.va] 25) p.vl p.vr);have E:Hid (typesB p=allB (fun n=>btw n 1 3) (p.left++p.right)):=Lib.hid rfl;obtain⟨l1,l2,r1,r2,-⟩:=hs;clear h;generalize typesB p=R at E⊢;obtain⟨kind,mode,low,high,size,limit,vl,vr,vk,vq,grouped,vg,va,left,right,lkeys,rkeys,group,aggs⟩:=p;simp only at HL HR hB HT E l1 l2 r1 r2⊢;obtain⟨A0,c0,rfl,-⟩:=id HL.out;obtain⟨A1,c1,rfl,-⟩:=id HR.out;go_enter Tryz.func99,Tryz.ntmps99
 go_wp2_with fail
 refine(concat_any _ _ _ left right _ HT.out (HL.out.below hB) (HR.out.below hB) (by omega) (by omega)).mono ?_;rintro e w1 ⟨v1,rfl,hs1,-,hb1⟩;have HS1:=Lib.hid hs1;have hB1:=below_trans hB hb1;clear hs1 hb1
 go_wp2_with fail
 refine(allTypes_any v1 (left++right) _ HS1.out).mono ?_;rintro e w2 ⟨rfl,rfl⟩;go_wp2;go_ret;exact⟨ret_bool E.out.symm,hB1⟩
def aggOk (t:List Int) (a:Int×Int):Bool:=if a.1=1 then a.2==0 else btw a.2 0 ((t.length:Int)-1)&&(a.1 != 2||t.getD a.2.toNat 0==2)
set_option maxHeartbeats 2000000 in
set_option maxRecDepth 10000 in
theorem formOne_any (a:Int×Int)(t:List Int)(vt:Value)(bt:Nat)(w:World)(K:Blk w bt 22 #[vt])(ht:Sl w vt t.length (intCells t))(hl:t.length≤1000):
 Calls Tryz.prog 133 #[.agg #[.int .i64 a.1,.int .i64 a.2],.pointer (some ⟨bt,0,none⟩)] w fun e w'=>e= .returned (.bool (aggOk t a))∧Below w.heap.size w w':=by
 obtain⟨f,c⟩:=a;have HH:=Lib.hid ht;obtain⟨A,cc,rfl,q1,q2,-⟩:=ht;unfold maxLen at q2;have z:=(K.alloc (.cells #[.int .i64 f,.int .i64 c] 94)).cell 0 _ rfl;simp only;by_cases h1:f=1
 ·have hb:=beqT h1
  have E:Hid (aggOk t (f,c)=(c==0)):=Lib.hid (if_pos h1);clear h1;go_enter Tryz.func133,Tryz.ntmps133
  go_wp2;go_ret;exact⟨ret_bool E.out.symm,below_alloc _ _⟩
 ·have hb:=beqF h1
  have E:Hid (aggOk t (f,c)=(btw c 0 ((t.length:Int)-1)&&(f != 2||t.getD c.toNat 0==2))):=Lib.hid (if_neg h1);clear h1;cases h2:btw c 0 ((t.length:Int)-1)
  ·have R:=Lib.hid (E.out.trans (by rw[h2]))
   go_enter Tryz.func133,Tryz.ntmps133
   go_wp2_with (go_at_call 127;refine(between_any _ _ _ _).mono ?_;rintro e w' ⟨rfl,rfl⟩)
   go_ret;exact⟨ret_bool (by rw[R.out];rfl),below_alloc _ _⟩
  ·obtain⟨b1,b2⟩:=btw_of h2
   obtain⟨m,rfl⟩: ∃m:Nat,c=m:=⟨c.toNat,by omega⟩;have hm:m<t.length:=by omega
   obtain⟨g,off,rfl,-,hc⟩:=int_at HH.out rfl hm;have c1:=hc _ (below_alloc w (.cells #[.int .i64 f,.int .i64 (m:Int)] 94));have hmn:((m:Int)).toNat=m:=by omega
   rw[hmn]at E;generalize t.getD m 0=y at c1 E;clear hc hmn;cases h3:(f==2)
   ·have g3:=bne_of h3
    simp only[Bool.not_false]at g3;have R:=Lib.hid (E.out.trans (by rw[h2,g3]));go_enter Tryz.func133,Tryz.ntmps133
    go_wp2_with (go_at_call 127;refine(between_any _ _ _ _).mono ?_;rintro e w' ⟨rfl,rfl⟩)
    go_ret;exact⟨ret_bool (by rw[R.out];rfl),below_alloc _ _⟩
   ·have g3:=bne_of h3
    simp only[Bool.not_true]at g3;have R:=Lib.hid (E.out.trans (by rw[h2,g3]));go_enter Tryz.func133,Tryz.ntmps133
    go_wp2_with (go_at_call 127;refine(between_any _ _ _ _).mono ?_;rintro e w' ⟨rfl,rfl⟩)
    go_ret;exact⟨ret_bool (by rw[R.out];simp),below_alloc _ _⟩
set_option maxHeartbeats 1000000 in
set_option maxRecDepth 10000 in
theorem allForm_any (v:Value)(l:List (Int×Int))(t:List Int)(vt:Value)(bt:Nat)(w:World)(h:Sl w v l.length (aggCells l))(K:Blk w bt 22 #[vt])(ht:Sl w vt t.length (intCells t))(hl:t.length≤1000):
 Calls Tryz.prog 128 #[v,.func (.func 133) #[] #[.pointer (some ⟨bt,0,none⟩)]] w fun e w'=>e= .returned (.bool (allB (aggOk t) l))∧Below w.heap.size w w':=by
 have HH:=Lib.hid h;have HT:=Lib.hid ht;have HK:=Lib.hid K;obtain⟨A,c,rfl,h1,h2,-⟩:=h;unfold maxLen at h2;clear ht K;go_enter Tryz.func128,Tryz.ntmps128
 go_wp2
 go_loopw[6,9] (fun _ i wr=> ∃k:Nat,k≤l.length∧i= .int .i64 k∧Hid (∀x∈l.take k,aggOk t x=true)∧Below w.heap.size w wr) (fun _ i _=>l.length-(intOf i).toNat)
 case atStart=>exact⟨0,by omega,rfl,by simp[Hid],Below.refl _ _⟩
 case round=>
  obtain⟨k,hk,rfl,H,hbw⟩:=hrel;by_cases hlt:k<l.length
  ·have hx:=List.getElem?_eq_getElem (l:=l) hlt
   generalize l[k]=x at hx;obtain⟨g,off,rfl,-,hc⟩:=agg_at HH.out rfl hx;obtain⟨c1,c2⟩:=hc _ hbw;have HX:=Lib.hid hx;have hbw2:=hbw.alloc hbw.size (.cells #[.int .i64 x.1,.int .i64 x.2] 94);clear hx hc;cases hq:aggOk t x
   ·have e1:=Lib.hid (all_no (f:=aggOk t) HX.out hq)
    have HQ:=Lib.hid hq;clear hq
    go_wp2_with (go_at_call 133;refine(formOne_any x t vt bt _ (HK.out.below hbw2) (HT.out.below hbw2) hl).mono ?_;rw[HQ.out];rintro e w1 ⟨rfl,hb1⟩)
    go_ret;exact⟨ret_bool e1.out.symm,below_trans hbw2 hb1⟩
   ·have e1:=Lib.hid (all_step (f:=aggOk t) H.out HX.out hq)
    have HQ:=Lib.hid hq;clear hq
    go_wp2_with (go_at_call 133;refine(formOne_any x t vt bt _ (HK.out.below hbw2) (HT.out.below hbw2) hl).mono ?_;rw[HQ.out];rintro e w1 ⟨rfl,hb1⟩)
    go_roundw
    case rel=>exact⟨k+1,by omega,by go_num,e1.out,below_trans hbw2 hb1⟩
    case measure=>simp[intOf];omega
  ·obtain rfl:k=l.length:=by omega
   have e1:=Lib.hid (all_yes (f:=aggOk t) H.out);go_wp2;go_ret;exact⟨ret_bool e1.out.symm,hbw⟩
end Go.Proofs.YtjhbeecmdgglgaaGreatDoor
namespace Go.Proofs.YtjhbeecmdgglgaaGreatDoor
open Go.RowKit Go.Maps
def pairOk (left right:List Int) (q:Int×Int):Bool:=left.getD q.1.toNat 0==right.getD q.2.toNat 0
def formB (p:Pl):Bool:= !(decide (p.high<p.low))&&((p.lkeys.length==p.rkeys.length)&&(unlikeB p.lkeys p.left.length&&(unlikeB p.rkeys p.right.length&&(unlikeB p.group (p.left++p.right).length&&(allB (pairOk p.left p.right) (p.lkeys.zip p.rkeys)&&allB (aggOk (p.left++p.right)) p.aggs)))))
theorem unl_range {n:Int}: ∀ {l seen:List Int},unlR n seen l=true→ ∀x∈l,0≤x∧x<n
 |[],_,_=>by simp
 |x::r,seen,h=>by
  simp only[unlR,Bool.and_eq_true]at h;obtain⟨⟨h1,-⟩,h3⟩:=h;intro y hy;rcases List.mem_cons.1 hy with rfl|hy
  ·have:=btw_of h1;omega
  ·exact unl_range h3 y hy
set_option maxHeartbeats 4000000 in
set_option maxRecDepth 10000 in
theorem form_any (p:Pl)(w:World)(h:p.ok w)(hs:p.short)(hf:p.fit):
 Calls Tryz.prog 100 #[.agg #[.int .i64 p.kind,.int .i64 p.mode,.int .i64 p.low,.int .i64 p.high,.int .i64 p.size,.int .i64 p.limit,p.vl,p.vr,p.vk,p.vq,.bool p.grouped,p.vg,p.va]] w fun e w'=>e= .returned (.bool (formB p))∧Below w.heap.size w w':=by
 have E:Hid (formB p=(!(decide (p.high<p.low))&&((p.lkeys.length==p.rkeys.length)&&(unlikeB p.lkeys p.left.length&&(unlikeB p.rkeys p.right.length&&(unlikeB p.group (p.left++p.right).length&&(allB (pairOk p.left p.right) (p.lkeys.zip p.rkeys)&&allB (aggOk (p.left++p.right)) p.aggs))))))):=Lib.hid rfl;generalize formB p=R at E⊢;have HL:=Lib.hid h.l;have HR:=Lib.hid h.r;have HK:=Lib.hid h.k;have HQ:=Lib.hid h.q;have HG:=Lib.hid h.g;have HA:=Lib.hid h.a;have FK:=Lib.hid hf.k;have FQ:=Lib.hid hf.q;have FG:=Lib.hid hf.g;obtain⟨l1,l2,r1,r2,k1,k2,q1,q2,g1,a1⟩:=hs;clear h hf;obtain⟨kind,mode,low,high,size,limit,vl,vr,vk,vq,grouped,vg,va,left,right,lkeys,rkeys,group,aggs⟩:=p;simp only at HL HR HK HQ HG HA FK FQ FG E l1 l2 r1 r2 k1 k2 q1 q2 g1 a1⊢;obtain⟨A0,c0,rfl,n0,m0,-⟩:=id HL.out;obtain⟨A1,c1,rfl,n1,m1,-⟩:=id HR.out;obtain⟨A2,c2,rfl,n2,m2,-⟩:=id HK.out;obtain⟨A3,c3,rfl,n3,m3,-⟩:=id HQ.out;obtain⟨A4,c4,rfl,n4,m4,-⟩:=id HG.out;obtain⟨A5,c5,rfl,n5,m5,-⟩:=id HA.out;have hB:=below_trans (below_alloc w (.cells #[.int .i64 kind,.int .i64 mode,.int .i64 low,.int .i64 high,.int .i64 size,.int .i64 limit,.slice A0 left.length c0,.slice A1 right.length c1,.slice A2 lkeys.length c2,.slice A3 rkeys.length c3,.bool grouped,.slice A4 group.length c4,.slice A5 aggs.length c5] 25)) (below_alloc _ (.cells #[.slice A0 left.length c0,.slice A1 right.length c1] 22));have HT:=Lib.hid (two_sl1 w (.cells #[.int .i64 kind,.int .i64 mode,.int .i64 low,.int .i64 high,.int .i64 size,.int .i64 limit,.slice A0 left.length c0,.slice A1 right.length c1,.slice A2 lkeys.length c2,.slice A3 rkeys.length c3,.bool grouped,.slice A4 group.length c4,.slice A5 aggs.length c5] 25) (.slice A0 left.length c0) (.slice A1 right.length c1));have KP:=new_first w 25 #[.int .i64 kind,.int .i64 mode,.int .i64 low,.int .i64 high,.int .i64 size,.int .i64 limit,.slice A0 left.length c0,.slice A1 right.length c1,.slice A2 lkeys.length c2,.slice A3 rkeys.length c3,.bool grouped,.slice A4 group.length c4,.slice A5 aggs.length c5] (.cells #[.slice A0 left.length c0,.slice A1 right.length c1] 22);have hz:(left++right).length≤8:=by rw[List.length_append];omega
 have hz1:1≤(left++right).length:=by rw[List.length_append];omega
 unfold maxLen at m0 m1 m2 m3 m4 m5;go_enter Tryz.func100,Tryz.ntmps100
 go_wp2_with fail
 refine(concat_any _ _ _ left right _ HT.out (HL.out.below hB) (HR.out.below hB) (by omega) (by omega)).mono ?_;rintro e w1 ⟨v1,rfl,hs1,-,hb1⟩;generalize ht:left++right=t at hs1 hz hz1 E;have HTT:=Lib.hid ht;clear ht;have HS1:=Lib.hid hs1;obtain⟨A6,c6,rfl,n6,m6,-⟩:=hs1;unfold maxLen at m6;have P1:=(KP.below hb1).alloc (.cells #[.slice A6 t.length c6] 22);have T1:=Blk.new w1 22 #[.slice A6 t.length c6];have HS1':=Lib.hid (HS1.out.below (below_alloc w1 (.cells #[.slice A6 t.length c6] 22)));have hB1:=below_trans (below_trans hB hb1) (below_alloc w1 (.cells #[.slice A6 t.length c6] 22));clear hB hb1 KP HS1 HT;have y1_2:=P1.cell 2 _ rfl;have y1_3:=P1.cell 3 _ rfl;have y1_6:=P1.cell 6 _ rfl;have y1_7:=P1.cell 7 _ rfl;have y1_8:=P1.cell 8 _ rfl;have y1_9:=P1.cell 9 _ rfl;have y1_11:=P1.cell 11 _ rfl;have y1_12:=P1.cell 12 _ rfl;have t0:=T1.cell 0 _ rfl;by_cases o1:high<low
 ·have e:=E.out
  simp only[decide_eq_true o1,Bool.not_true,Bool.not_false,Bool.true_and,Bool.false_and]at e;have EE:=Lib.hid e;clear e;go_wp2;go_ret;exact⟨ret_bool (by rw[EE.out]),hB1⟩
 ·have do1:decide (high<low)=false:=by simpa using o1
  have e:=E.out;simp only[do1,Bool.not_true,Bool.not_false,Bool.true_and,Bool.false_and]at e;have E2:=Lib.hid e;clear e;clear E do1;by_cases o2:lkeys.length=rkeys.length
  ·have b2:((lkeys.length:Int)==(rkeys.length:Int))=true:=by simp[o2]
   have b2':=bne_of b2;simp only[Bool.not_true]at b2';have hkq:lkeys.length≤rkeys.length:=by omega
   have e:=E2.out;simp only[show(lkeys.length==rkeys.length)=true from by simp[o2],Bool.not_true,Bool.not_false,Bool.true_and,Bool.false_and]at e;have E3:=Lib.hid e;clear e;have HO2:=Lib.hid o2;clear E2 o2;cases u1:unlikeB lkeys left.length
   ·have e:=E3.out
    simp only[u1,Bool.not_true,Bool.not_false,Bool.true_and,Bool.false_and]at e;have EE:=Lib.hid e;clear e
    go_wp2_with fail
    refine(unlike_any _ lkeys _ _ (HK.out.below hB1) (by omega) FK.out).mono ?_;rw[u1];rintro e w2 ⟨rfl,hb2⟩;go_wp2;go_ret;exact⟨ret_bool (by rw[EE.out]),below_trans hB1 hb2⟩
   ·have e:=E3.out
    simp only[u1,Bool.not_true,Bool.not_false,Bool.true_and,Bool.false_and]at e;have E4:=Lib.hid e;clear e;have U1:=Lib.hid u1;clear E3 u1
    go_wp2_with fail
    refine(unlike_any _ lkeys _ _ (HK.out.below hB1) (by omega) FK.out).mono ?_;rw[U1.out];rintro e w2 ⟨rfl,hb2⟩;have P2:=P1.below hb2;have T2:=T1.below hb2;have HS2:=Lib.hid (HS1'.out.below hb2);have hB2:=below_trans hB1 hb2;clear P1 T1 hb2 hB1 t0 y1_2 y1_3 y1_6 y1_7 y1_8 y1_9 y1_11 y1_12 HS1';have y2_2:=P2.cell 2 _ rfl;have y2_3:=P2.cell 3 _ rfl;have y2_6:=P2.cell 6 _ rfl;have y2_7:=P2.cell 7 _ rfl;have y2_8:=P2.cell 8 _ rfl;have y2_9:=P2.cell 9 _ rfl;have y2_11:=P2.cell 11 _ rfl;have y2_12:=P2.cell 12 _ rfl;have t0:=T2.cell 0 _ rfl;cases u2:unlikeB rkeys right.length
    ·have e:=E4.out
     simp only[u2,Bool.not_true,Bool.not_false,Bool.true_and,Bool.false_and]at e;have EE:=Lib.hid e;clear e
     go_wp2_with fail
     refine(unlike_any _ rkeys _ _ (HQ.out.below hB2) (by omega) FQ.out).mono ?_;rw[u2];rintro e w3 ⟨rfl,hb3⟩;go_wp2;go_ret;exact⟨ret_bool (by rw[EE.out]),below_trans hB2 hb3⟩
    ·have e:=E4.out
     simp only[u2,Bool.not_true,Bool.not_false,Bool.true_and,Bool.false_and]at e;have E5:=Lib.hid e;clear e;have U2:=Lib.hid u2;clear E4 u2
     go_wp2_with fail
     refine(unlike_any _ rkeys _ _ (HQ.out.below hB2) (by omega) FQ.out).mono ?_;rw[U2.out];rintro e w3 ⟨rfl,hb3⟩;have P3:=P2.below hb3;have T3:=T2.below hb3;have HS3:=Lib.hid (HS2.out.below hb3);have hB3:=below_trans hB2 hb3;clear P2 T2 hb3 hB2 t0 y2_2 y2_3 y2_6 y2_7 y2_8 y2_9 y2_11 y2_12 HS2;have y3_2:=P3.cell 2 _ rfl;have y3_3:=P3.cell 3 _ rfl;have y3_6:=P3.cell 6 _ rfl;have y3_7:=P3.cell 7 _ rfl;have y3_8:=P3.cell 8 _ rfl;have y3_9:=P3.cell 9 _ rfl;have y3_11:=P3.cell 11 _ rfl;have y3_12:=P3.cell 12 _ rfl;have t0:=T3.cell 0 _ rfl;cases u3:unlikeB group t.length
     ·have e:=E5.out
      simp only[u3,Bool.not_true,Bool.not_false,Bool.true_and,Bool.false_and]at e;have EE:=Lib.hid e;clear e
      go_wp2_with fail
      refine(unlike_any _ group _ _ (HG.out.below hB3) (by omega) FG.out).mono ?_;rw[u3];rintro e w4 ⟨rfl,hb4⟩;go_wp2;go_ret;exact⟨ret_bool (by rw[EE.out]),below_trans hB3 hb4⟩
     ·have e:=E5.out
      simp only[u3,Bool.not_true,Bool.not_false,Bool.true_and,Bool.false_and]at e;have E6:=Lib.hid e;clear e;have U3:=Lib.hid u3;clear E5 u3
      go_wp2_with fail
      refine(unlike_any _ group _ _ (HG.out.below hB3) (by omega) FG.out).mono ?_;rw[U3.out];rintro e w4 ⟨rfl,hb4⟩;have P4:=P3.below hb4;have T4:=T3.below hb4;have HS4:=Lib.hid (HS3.out.below hb4);have hB4:=below_trans hB3 hb4;clear P3 T3 hb4 hB3 t0 y3_2 y3_3 y3_6 y3_7 y3_8 y3_9 y3_11 y3_12 HS3;have y4_2:=P4.cell 2 _ rfl;have y4_3:=P4.cell 3 _ rfl;have y4_6:=P4.cell 6 _ rfl;have y4_7:=P4.cell 7 _ rfl;have y4_8:=P4.cell 8 _ rfl;have y4_9:=P4.cell 9 _ rfl;have y4_11:=P4.cell 11 _ rfl;have y4_12:=P4.cell 12 _ rfl
      go_wp2_with fail
      clear y4_2 y4_3 y4_6 y4_7 y4_8 y4_9 y4_11 y4_12
      go_loopw[4,5,55] (fun _ _ i wr=> ∃k:Nat,k≤lkeys.length∧i= .int .i64 k∧Hid (∀q∈(lkeys.zip rkeys).take k,pairOk left right q=true)∧Below w4.heap.size w4 wr) (fun _ _ i _=>lkeys.length-(intOf i).toNat)
      case atStart=>exact⟨0,by omega,rfl,by simp[Hid],Below.refl _ _⟩
      case round=>
       obtain⟨k,hk,rfl,H,hbw⟩:=hrel;have hBw:=hB4.trans (hbw.mono hB4.size);have P5:=P4.below hbw;have T5:=T4.below hbw;by_cases hlt:k<lkeys.length
       ·have hltq:k<rkeys.length:=by omega
        obtain⟨bk,ok,hAk,-,hck⟩:=int_at HK.out rfl hlt;obtain⟨bq,oq,hAq,-,hcq⟩:=int_at HQ.out rfl hltq;have gk:lkeys[k]?=some (lkeys.getD k 0):=by simp[hlt]
        have gq:rkeys[k]?=some (rkeys.getD k 0):=by simp[hltq]
        have d1:=hck _ hBw;have d2:=hcq _ hBw;have rk:=unl_range U1.out _ (List.mem_of_getElem? gk);have rq:=unl_range U2.out _ (List.mem_of_getElem? gq);have GZ:=Lib.hid (show(lkeys.zip rkeys)[k]?=some (lkeys.getD k 0,rkeys.getD k 0)from by rw[List.getElem?_zip_eq_some];exact⟨gk,gq⟩);generalize lkeys.getD k 0=x at d1 rk GZ;generalize rkeys.getD k 0=y at d2 rq GZ;clear gk gq hck hcq;obtain⟨a,rfl⟩: ∃a:Nat,x=a:=⟨x.toNat,by omega⟩;obtain⟨b,rfl⟩: ∃b:Nat,y=b:=⟨y.toNat,by omega⟩;have ra:a<left.length:=by omega
        have rb:b<right.length:=by omega
        obtain⟨bl,ol,hAl,-,hcl⟩:=int_at HL.out rfl ra;obtain⟨br,orr,hAr,-,hcr⟩:=int_at HR.out rfl rb;have d3:=hcl _ hBw;have d4:=hcr _ hBw;have GP:=Lib.hid (show pairOk left right ((a:Int),(b:Int))=(left.getD a 0==right.getD b 0)from rfl);generalize left.getD a 0=X at d3 GP;generalize right.getD b 0=Y at d4 GP;clear hcl hcr rk rq;subst hAk hAq hAl hAr;have k0:(0:Int)≤(k:Int):=by omega
        have k1:(k:Int)<(lkeys.length:Int):=by omega
        have k2':(k:Int)<(rkeys.length:Int):=by omega
        have a0:(0:Int)≤(a:Int):=by omega
        have a1':(a:Int)<(left.length:Int):=by omega
        have b0:(0:Int)≤(b:Int):=by omega
        have b1':(b:Int)<(right.length:Int):=by omega
        have y6:=P5.cell 6 _ rfl;have y7:=P5.cell 7 _ rfl;have y9:=P5.cell 9 _ rfl;cases hq:(X==Y)
        ·have g3:=bne_of hq
         simp only[Bool.not_false]at g3;have e1:=Lib.hid (all_no (f:=pairOk left right) GZ.out (by rw[GP.out,hq]));have e:=E6.out;simp only[e1.out,Bool.not_true,Bool.not_false,Bool.true_and,Bool.false_and]at e;have EE:=Lib.hid e;clear e
         go_wp2_with fail
         go_quiet (fail)
         go_wp2;go_ret;exact⟨ret_bool (by rw[EE.out]),below_drewN hBw _⟩
        ·have g3:=bne_of hq
         simp only[Bool.not_true]at g3;have e1:=Lib.hid (all_step (f:=pairOk left right) H.out GZ.out (by rw[GP.out,hq]))
         go_wp2_with fail
         go_quiet (fail)
         go_wp2;go_roundw
         case rel=>exact⟨k+1,by omega,by go_num,e1.out,below_drewN hbw _⟩
         case measure=>simp[intOf];omega
       ·obtain rfl:k=lkeys.length:=by omega
        have e1:=Lib.hid (show allB (pairOk left right) (lkeys.zip rkeys)=true from all_yes (by
         have hzl:(lkeys.zip rkeys).length=lkeys.length:=by rw[List.length_zip];omega
         rw[hzl];exact H.out))
        have e:=E6.out;simp only[e1.out,Bool.not_true,Bool.not_false,Bool.true_and,Bool.false_and]at e;have EE:=Lib.hid e;clear e;have y12:=P5.cell 12 _ rfl
        go_wp2_with fail
        refine(allForm_any _ aggs t _ _ _ (HA.out.below hBw) T5 (HS4.out.below hbw) (by omega)).mono ?_;rintro e w6 ⟨rfl,hb6⟩;go_wp2;go_ret;exact⟨ret_bool (by rw[EE.out]),below_trans hBw hb6⟩
  ·have b2:((lkeys.length:Int)==(rkeys.length:Int))=false:=by simp;omega
   have b2':=bne_of b2;simp only[Bool.not_false]at b2';have e:=E2.out;simp only[show(lkeys.length==rkeys.length)=false from by simp[o2],Bool.not_true,Bool.not_false,Bool.true_and,Bool.false_and]at e;have EE:=Lib.hid e;clear e;clear o2;go_wp2;go_ret;exact⟨ret_bool (by rw[EE.out]),hB1⟩
end Go.Proofs.YtjhbeecmdgglgaaGreatDoor
namespace Go.Proofs.YtjhbeecmdgglgaaGreatDoor
open Go.RowKit Go.Maps
def checkP (p:Pl):Int:=if kindsB p then if rangesB p then if countsB p then if typesB p then if formB p then 0 else 1 else 5 else 2 else 3 else 4
theorem counts_short {p:Pl}(h:countsB p=true):p.short:=by
 unfold countsB at h;rw[Bool.and_eq_true]at h;obtain⟨h1,h2⟩:=h;simp only[allB,lens,List.all_cons,List.all_nil,id,Bool.and_true,Bool.and_eq_true]at h1;obtain⟨a,b,c,d⟩:=h1;have a:=btw_of a;have b:=btw_of b;have c:=btw_of c;have d:=btw_of d
 have e:p.group.length≤8∧p.aggs.length≤4:=by
  cases hg:p.grouped
  ·rw[hg]at h2
   simp at h2;omega
  ·rw[hg]at h2
   simp only[if_true,Bool.and_eq_true,decide_eq_true_eq]at h2;have:=btw_of h2.1;omega
 exact⟨by omega,by omega,by omega,by omega,by omega,by omega,by omega,by omega,e.1,e.2⟩
set_option maxHeartbeats 4000000 in
set_option maxRecDepth 10000 in
theorem check_any (p:Pl)(w:World)(h:p.ok w)(hf:p.fit):
 Calls Tryz.prog 52 #[.agg #[.int .i64 p.kind,.int .i64 p.mode,.int .i64 p.low,.int .i64 p.high,.int .i64 p.size,.int .i64 p.limit,p.vl,p.vr,p.vk,p.vq,.bool p.grouped,p.vg,p.va]] w fun e w'=>e= .returned (.int .i64 (checkP p))∧Below w.heap.size w w':=by
 have HO:=Lib.hid h;have HF:=Lib.hid hf;have K1:=Blk.new w 25 #[.int .i64 p.kind,.int .i64 p.mode,.int .i64 p.low,.int .i64 p.high,.int .i64 p.size,.int .i64 p.limit,p.vl,p.vr,p.vk,p.vq,.bool p.grouped,p.vg,p.va];have K1:=K1.alloc (.cells #[.func (.func 96) #[] #[],.int .i64 4,.func (.func 97) #[] #[],.int .i64 3,.func (.func 98) #[] #[],.int .i64 2,.func (.func 99) #[] #[],.int .i64 5,.func (.func 100) #[] #[],.int .i64 1] 139);have K2:=new_second w 139 #[.func (.func 96) #[] #[],.int .i64 4,.func (.func 97) #[] #[],.int .i64 3,.func (.func 98) #[] #[],.int .i64 2,.func (.func 99) #[] #[],.int .i64 5,.func (.func 100) #[] #[],.int .i64 1] (.cells #[.int .i64 p.kind,.int .i64 p.mode,.int .i64 p.low,.int .i64 p.high,.int .i64 p.size,.int .i64 p.limit,p.vl,p.vr,p.vk,p.vq,.bool p.grouped,p.vg,p.va] 25);have hB:=below_trans (below_alloc w (.cells #[.int .i64 p.kind,.int .i64 p.mode,.int .i64 p.low,.int .i64 p.high,.int .i64 p.size,.int .i64 p.limit,p.vl,p.vr,p.vk,p.vq,.bool p.grouped,p.vg,p.va] 25)) (below_alloc _ (.cells #[.func (.func 96) #[] #[],.int .i64 4,.func (.func 97) #[] #[],.int .i64 3,.func (.func 98) #[] #[],.int .i64 2,.func (.func 99) #[] #[],.int .i64 5,.func (.func 100) #[] #[],.int .i64 1] 139));obtain⟨bs,hbs⟩: ∃bs:List Bool,bs=[kindsB p,rangesB p,countsB p,typesB p,formB p]:=⟨_,rfl⟩;have HBS:=Lib.hid hbs;have HC:Hid (checkP p=if kindsB p then if rangesB p then if countsB p then if typesB p then if formB p then 0 else 1 else 5 else 2 else 3 else 4):=Lib.hid rfl;generalize checkP p=R at HC⊢;clear h hf hbs;go_enter Tryz.func52,Tryz.ntmps52
 go_wp2_with fail
 go_loopw[4,12] (fun _ i wr=> ∃k:Nat,k≤5∧i= .int .i64 k∧Hid (∀b∈bs.take k,id b=true)∧Blk wr w.heap.size 25 #[.int .i64 p.kind,.int .i64 p.mode,.int .i64 p.low,.int .i64 p.high,.int .i64 p.size,.int .i64 p.limit,p.vl,p.vr,p.vk,p.vq,.bool p.grouped,p.vg,p.va]∧Blk wr (w.heap.size+1) 139 #[.func (.func 96) #[] #[],.int .i64 4,.func (.func 97) #[] #[],.int .i64 3,.func (.func 98) #[] #[],.int .i64 2,.func (.func 99) #[] #[],.int .i64 5,.func (.func 100) #[] #[],.int .i64 1]∧Below w.heap.size w wr) (fun _ i _=>5-(intOf i).toNat)
 case atStart=>exact⟨0,by omega,rfl,by simp[Hid],K1,K2,hB⟩
 case round=>
  obtain⟨k,hk,rfl,H,J1,J2,hbw⟩:=hrel;have hk5:k=0∨k=1∨k=2∨k=3∨k=4∨k=5:=by omega
  rcases hk5 with rfl|rfl|rfl|rfl|rfl|rfl
  ·have z0:=J2.cell 0 _ rfl
   have z1:=J2.cell 1 _ rfl;have J1':=J1.alloc (.cells #[.func (.func 96) #[] #[],.int .i64 4] 139);have J2':=J2.alloc (.cells #[.func (.func 96) #[] #[],.int .i64 4] 139);have y0:=J1'.cell 0 _ rfl;have y1:=J1'.cell 1 _ rfl;have y2:=J1'.cell 2 _ rfl;have y3:=J1'.cell 3 _ rfl;have y4:=J1'.cell 4 _ rfl;have y5:=J1'.cell 5 _ rfl;have y6:=J1'.cell 6 _ rfl;have y7:=J1'.cell 7 _ rfl;have y8:=J1'.cell 8 _ rfl;have y9:=J1'.cell 9 _ rfl;have y10:=J1'.cell 10 _ rfl;have y11:=J1'.cell 11 _ rfl;have y12:=J1'.cell 12 _ rfl;have hbw2:=hbw.alloc hbw.size (.cells #[.func (.func 96) #[] #[],.int .i64 4] 139);have hsz:=hbw.size;have G: ∀(j:Nat) (b:Bool),j<0→bs[j]?=some b→b=true:=fun j b hj hb=>H.out b (List.mem_of_getElem? (i:=j) (by rw[List.getElem?_take,if_pos hj];exact hb));clear G;cases hq:kindsB p
   ·have EE:=Lib.hid (HC.out.trans (by simp only[hq];rfl:_=(4:Int)))
    have HQ:=Lib.hid hq;clear hq
    go_wp2_with fail
    refine(kinds_any p _ (HO.out.below hbw2)).mono ?_;rw[HQ.out];rintro e w1 ⟨rfl,hb1⟩;have x0:=((Blk.new wr 139 #[.func (.func 96) #[] #[],.int .i64 4]).below hb1).cell 1 _ rfl;go_wp2;go_ret;exact⟨by rw[EE.out];rfl,below_trans hbw2 hb1⟩
   ·have e1:=Lib.hid (all_step (f:=id) (l:=bs) (k:=0) H.out (by rw[HBS.out];rfl) hq)
    have HQ:=Lib.hid hq;clear hq
    go_wp2_with fail
    refine(kinds_any p _ (HO.out.below hbw2)).mono ?_;rw[HQ.out];rintro e w1 ⟨rfl,hb1⟩;go_wp2;go_roundw
    case rel=>exact⟨1,by omega,by go_num,e1.out,J1'.below hb1,J2'.below hb1,below_trans hbw2 hb1⟩
    case measure=>simp[intOf]
  ·have z0:=J2.cell 2 _ rfl
   have z1:=J2.cell 3 _ rfl;have J1':=J1.alloc (.cells #[.func (.func 97) #[] #[],.int .i64 3] 139);have J2':=J2.alloc (.cells #[.func (.func 97) #[] #[],.int .i64 3] 139);have y0:=J1'.cell 0 _ rfl;have y1:=J1'.cell 1 _ rfl;have y2:=J1'.cell 2 _ rfl;have y3:=J1'.cell 3 _ rfl;have y4:=J1'.cell 4 _ rfl;have y5:=J1'.cell 5 _ rfl;have y6:=J1'.cell 6 _ rfl;have y7:=J1'.cell 7 _ rfl;have y8:=J1'.cell 8 _ rfl;have y9:=J1'.cell 9 _ rfl;have y10:=J1'.cell 10 _ rfl;have y11:=J1'.cell 11 _ rfl;have y12:=J1'.cell 12 _ rfl;have hbw2:=hbw.alloc hbw.size (.cells #[.func (.func 97) #[] #[],.int .i64 3] 139);have hsz:=hbw.size;have G: ∀(j:Nat) (b:Bool),j<1→bs[j]?=some b→b=true:=fun j b hj hb=>H.out b (List.mem_of_getElem? (i:=j) (by rw[List.getElem?_take,if_pos hj];exact hb));have B0:=Lib.hid (G 0 (kindsB p) (by omega) (by rw[HBS.out];rfl));clear G;cases hq:rangesB p
   ·have EE:=Lib.hid (HC.out.trans (by simp only[B0.out,hq];rfl:_=(3:Int)))
    have HQ:=Lib.hid hq;clear hq
    go_wp2_with fail
    refine(ranges_any p _).mono ?_;rw[HQ.out];rintro e w1 ⟨rfl,hb1⟩;have x0:=((Blk.new wr 139 #[.func (.func 97) #[] #[],.int .i64 3]).below hb1).cell 1 _ rfl;go_wp2;go_ret;exact⟨by rw[EE.out];rfl,below_trans hbw2 hb1⟩
   ·have e1:=Lib.hid (all_step (f:=id) (l:=bs) (k:=1) H.out (by rw[HBS.out];rfl) hq)
    have HQ:=Lib.hid hq;clear hq
    go_wp2_with fail
    refine(ranges_any p _).mono ?_;rw[HQ.out];rintro e w1 ⟨rfl,hb1⟩;go_wp2;go_roundw
    case rel=>exact⟨2,by omega,by go_num,e1.out,J1'.below hb1,J2'.below hb1,below_trans hbw2 hb1⟩
    case measure=>simp[intOf]
  ·have z0:=J2.cell 4 _ rfl
   have z1:=J2.cell 5 _ rfl;have J1':=J1.alloc (.cells #[.func (.func 98) #[] #[],.int .i64 2] 139);have J2':=J2.alloc (.cells #[.func (.func 98) #[] #[],.int .i64 2] 139);have y0:=J1'.cell 0 _ rfl;have y1:=J1'.cell 1 _ rfl;have y2:=J1'.cell 2 _ rfl;have y3:=J1'.cell 3 _ rfl;have y4:=J1'.cell 4 _ rfl;have y5:=J1'.cell 5 _ rfl;have y6:=J1'.cell 6 _ rfl;have y7:=J1'.cell 7 _ rfl;have y8:=J1'.cell 8 _ rfl;have y9:=J1'.cell 9 _ rfl;have y10:=J1'.cell 10 _ rfl;have y11:=J1'.cell 11 _ rfl;have y12:=J1'.cell 12 _ rfl;have hbw2:=hbw.alloc hbw.size (.cells #[.func (.func 98) #[] #[],.int .i64 2] 139);have hsz:=hbw.size;have G: ∀(j:Nat) (b:Bool),j<2→bs[j]?=some b→b=true:=fun j b hj hb=>H.out b (List.mem_of_getElem? (i:=j) (by rw[List.getElem?_take,if_pos hj];exact hb));have B0:=Lib.hid (G 0 (kindsB p) (by omega) (by rw[HBS.out];rfl));have B1:=Lib.hid (G 1 (rangesB p) (by omega) (by rw[HBS.out];rfl));clear G;cases hq:countsB p
   ·have EE:=Lib.hid (HC.out.trans (by simp only[B0.out,B1.out,hq];rfl:_=(2:Int)))
    have HQ:=Lib.hid hq;clear hq
    go_wp2_with fail
    refine(counts_any p _ (HO.out.below hbw2)).mono ?_;rw[HQ.out];rintro e w1 ⟨rfl,hb1⟩;have x0:=((Blk.new wr 139 #[.func (.func 98) #[] #[],.int .i64 2]).below hb1).cell 1 _ rfl;go_wp2;go_ret;exact⟨by rw[EE.out];rfl,below_trans hbw2 hb1⟩
   ·have e1:=Lib.hid (all_step (f:=id) (l:=bs) (k:=2) H.out (by rw[HBS.out];rfl) hq)
    have HQ:=Lib.hid hq;clear hq
    go_wp2_with fail
    refine(counts_any p _ (HO.out.below hbw2)).mono ?_;rw[HQ.out];rintro e w1 ⟨rfl,hb1⟩;go_wp2;go_roundw
    case rel=>exact⟨3,by omega,by go_num,e1.out,J1'.below hb1,J2'.below hb1,below_trans hbw2 hb1⟩
    case measure=>simp[intOf]
  ·have z0:=J2.cell 6 _ rfl
   have z1:=J2.cell 7 _ rfl;have J1':=J1.alloc (.cells #[.func (.func 99) #[] #[],.int .i64 5] 139);have J2':=J2.alloc (.cells #[.func (.func 99) #[] #[],.int .i64 5] 139);have y0:=J1'.cell 0 _ rfl;have y1:=J1'.cell 1 _ rfl;have y2:=J1'.cell 2 _ rfl;have y3:=J1'.cell 3 _ rfl;have y4:=J1'.cell 4 _ rfl;have y5:=J1'.cell 5 _ rfl;have y6:=J1'.cell 6 _ rfl;have y7:=J1'.cell 7 _ rfl;have y8:=J1'.cell 8 _ rfl;have y9:=J1'.cell 9 _ rfl;have y10:=J1'.cell 10 _ rfl;have y11:=J1'.cell 11 _ rfl;have y12:=J1'.cell 12 _ rfl;have hbw2:=hbw.alloc hbw.size (.cells #[.func (.func 99) #[] #[],.int .i64 5] 139);have hsz:=hbw.size;have G: ∀(j:Nat) (b:Bool),j<3→bs[j]?=some b→b=true:=fun j b hj hb=>H.out b (List.mem_of_getElem? (i:=j) (by rw[List.getElem?_take,if_pos hj];exact hb));have B0:=Lib.hid (G 0 (kindsB p) (by omega) (by rw[HBS.out];rfl));have B1:=Lib.hid (G 1 (rangesB p) (by omega) (by rw[HBS.out];rfl));have B2:=Lib.hid (G 2 (countsB p) (by omega) (by rw[HBS.out];rfl));have CC:=B2;clear G;cases hq:typesB p
   ·have EE:=Lib.hid (HC.out.trans (by simp only[B0.out,B1.out,B2.out,hq];rfl:_=(5:Int)))
    have HQ:=Lib.hid hq;clear hq
    go_wp2_with fail
    refine(typesFine_any p _ (HO.out.below hbw2) (counts_short CC.out)).mono ?_;rw[HQ.out];rintro e w1 ⟨rfl,hb1⟩;have x0:=((Blk.new wr 139 #[.func (.func 99) #[] #[],.int .i64 5]).below hb1).cell 1 _ rfl;go_wp2;go_ret;exact⟨by rw[EE.out];rfl,below_trans hbw2 hb1⟩
   ·have e1:=Lib.hid (all_step (f:=id) (l:=bs) (k:=3) H.out (by rw[HBS.out];rfl) hq)
    have HQ:=Lib.hid hq;clear hq
    go_wp2_with fail
    refine(typesFine_any p _ (HO.out.below hbw2) (counts_short CC.out)).mono ?_;rw[HQ.out];rintro e w1 ⟨rfl,hb1⟩;go_wp2;go_roundw
    case rel=>exact⟨4,by omega,by go_num,e1.out,J1'.below hb1,J2'.below hb1,below_trans hbw2 hb1⟩
    case measure=>simp[intOf]
  ·have z0:=J2.cell 8 _ rfl
   have z1:=J2.cell 9 _ rfl;have J1':=J1.alloc (.cells #[.func (.func 100) #[] #[],.int .i64 1] 139);have J2':=J2.alloc (.cells #[.func (.func 100) #[] #[],.int .i64 1] 139);have y0:=J1'.cell 0 _ rfl;have y1:=J1'.cell 1 _ rfl;have y2:=J1'.cell 2 _ rfl;have y3:=J1'.cell 3 _ rfl;have y4:=J1'.cell 4 _ rfl;have y5:=J1'.cell 5 _ rfl;have y6:=J1'.cell 6 _ rfl;have y7:=J1'.cell 7 _ rfl;have y8:=J1'.cell 8 _ rfl;have y9:=J1'.cell 9 _ rfl;have y10:=J1'.cell 10 _ rfl;have y11:=J1'.cell 11 _ rfl;have y12:=J1'.cell 12 _ rfl;have hbw2:=hbw.alloc hbw.size (.cells #[.func (.func 100) #[] #[],.int .i64 1] 139);have hsz:=hbw.size;have G: ∀(j:Nat) (b:Bool),j<4→bs[j]?=some b→b=true:=fun j b hj hb=>H.out b (List.mem_of_getElem? (i:=j) (by rw[List.getElem?_take,if_pos hj];exact hb));have B0:=Lib.hid (G 0 (kindsB p) (by omega) (by rw[HBS.out];rfl));have B1:=Lib.hid (G 1 (rangesB p) (by omega) (by rw[HBS.out];rfl));have B2:=Lib.hid (G 2 (countsB p) (by omega) (by rw[HBS.out];rfl));have B3:=Lib.hid (G 3 (typesB p) (by omega) (by rw[HBS.out];rfl));have CC:=B2;clear G;cases hq:formB p
   ·have EE:=Lib.hid (HC.out.trans (by simp only[B0.out,B1.out,B2.out,B3.out,hq];rfl:_=(1:Int)))
    have HQ:=Lib.hid hq;clear hq
    go_wp2_with fail
    refine(form_any p _ (HO.out.below hbw2) (counts_short CC.out) HF.out).mono ?_;rw[HQ.out];rintro e w1 ⟨rfl,hb1⟩;have x0:=((Blk.new wr 139 #[.func (.func 100) #[] #[],.int .i64 1]).below hb1).cell 1 _ rfl;go_wp2;go_ret;exact⟨by rw[EE.out];rfl,below_trans hbw2 hb1⟩
   ·have e1:=Lib.hid (all_step (f:=id) (l:=bs) (k:=4) H.out (by rw[HBS.out];rfl) hq)
    have HQ:=Lib.hid hq;clear hq
    go_wp2_with fail
    refine(form_any p _ (HO.out.below hbw2) (counts_short CC.out) HF.out).mono ?_;rw[HQ.out];rintro e w1 ⟨rfl,hb1⟩;go_wp2;go_roundw
    case rel=>exact⟨5,by omega,by go_num,e1.out,J1'.below hb1,J2'.below hb1,below_trans hbw2 hb1⟩
    case measure=>simp[intOf]
  ·have hall:=H.out
   rw[HBS.out]at hall;have B0:kindsB p=true:=hall _ (List.mem_of_getElem? (i:=0) rfl);have B1:rangesB p=true:=hall _ (List.mem_of_getElem? (i:=1) rfl);have B2:countsB p=true:=hall _ (List.mem_of_getElem? (i:=2) rfl);have B3:typesB p=true:=hall _ (List.mem_of_getElem? (i:=3) rfl);have B4:formB p=true:=hall _ (List.mem_of_getElem? (i:=4) rfl);have EE:=Lib.hid (HC.out.trans (by simp only[B0,B1,B2,B3,B4];rfl:_=(0:Int)));clear hall B0 B1 B2 B3 B4;go_wp2;go_ret;exact⟨by rw[EE.out];rfl,hbw⟩
end Go.Proofs.YtjhbeecmdgglgaaGreatDoor
namespace Go.Proofs.YtjhbeecmdgglgaaGreatDoor
open Go.RowKit Go.Maps
def outG (t g:List Int):List Int:=g.map fun c=>t.getD c.toNat 0
theorem check_ok {p:Pl}(h:checkP p=0):kindsB p=true∧rangesB p=true∧countsB p=true∧typesB p=true∧formB p=true:=by
 unfold checkP at h;cases h1:kindsB p<;>cases h2:rangesB p<;>cases h3:countsB p<;>cases h4:typesB p<;>cases h5:formB p<;>simp_all
theorem kinds_agg {p:Pl}(h:kindsB p=true)(hg:p.grouped=true): ∀a∈p.aggs,1≤a.1∧a.1≤4:=by
 unfold kindsB at h;rw[hg]at h;simp only[Bool.not_true,Bool.false_or,Bool.and_eq_true,allB,List.all_eq_true]at h;exact fun a ha=>btw_of (h.2.2 a ha)
theorem form_group {p:Pl}(h:formB p=true): ∀x∈p.group,0≤x∧x<(p.left++p.right).length:=by
 unfold formB at h;simp only[Bool.and_eq_true]at h;exact unl_range h.2.2.2.2.1
theorem form_aggs {p:Pl}(h:formB p=true): ∀x∈p.aggs,x.1≠1→0≤x.2∧x.2<(p.left++p.right).length:=by
 unfold formB at h;simp only[Bool.and_eq_true,allB,List.all_eq_true]at h;intro x hx hne;have:=h.2.2.2.2.2.2 x hx;unfold aggOk at this;rw[if_neg hne,Bool.and_eq_true]at this;have:=btw_of this.1;omega
theorem map_step {α β:Type}{f:α→β}{l:List α}{k:Nat}{x:α}(h:l[k]?=some x):(l.take (k+1)).map f=(l.take k).map f++[f x]:=by
 rw[List.take_add_one,h];simp
theorem one_int (W:World)(x:Int):Sl (W.alloc (.cells #[.int .i64 x] 3)) (.slice (some ⟨W.heap.size,0,none⟩) 1 1) 1 [.int .i64 x]:=Sl.block (Blk.new W 3 #[.int .i64 x]) 1 1 (Nat.le_refl _) (by decide)
theorem one_int1 (W:World)(o:Obj)(x:Int):Sl ((W.alloc o).alloc (.cells #[.int .i64 x] 3)) (.slice (some ⟨W.heap.size+1,0,none⟩) 1 1) 1 [.int .i64 x]:=by
 have:=one_int (W.alloc o) x;rwa[World.size_alloc]at this
theorem one_cell (x:Int): ∀u∈[Value.int .i64 x],u.oneCell'=true:=by intro u hu;simp at hu;subst hu;rfl
theorem cells_step {t:List Int}{x y:Int}(h:y=x):intCells t++[Value.int .i64 x]=intCells (t++[y]):=by rw[intCells_app,h];rfl
end Go.Proofs.YtjhbeecmdgglgaaGreatDoor
namespace Go.Proofs.YtjhbeecmdgglgaaGreatDoor
open Go.RowKit Go.Maps
def sideT (p:Pl) (side:Int):List Int:=if side=2 then p.right else p.left
def fitOne (q:Int×Val):Bool:=q.2.k==0||q.2.k==q.1
def rowE (p:Pl) (side:Int) (r:List Val):Int:=
 if side=1∨side=2 then if r.length=(sideT p side).length then if firstNZ (r.map checkV)=0 then if allB fitOne ((sideT p side).zip r)then 0 else 5 else firstNZ (r.map checkV)else 2 else 4
end Go.Proofs.YtjhbeecmdgglgaaGreatDoor
namespace Go.Proofs.YtjhbeecmdgglgaaGreatDoor
structure Tl where
 v:Val
 n:Int
structure Gp where
 r:List Val
 n:Int
 bags:List (List Tl)
def allT (p:Pl):List Int:=p.left++p.right
def ownT (p:Pl):List Int:=p.group.map fun c=>(allT p).getD c.toNat 0
def prevOk (prev:Option Val) (x:Val):Bool:=match prev with
 |some y=>decide (cmpV y x<0)
 |none=>true
def bagG (t:Int):Option Val→Int→List Tl→Bool
 |_,left,[]=>left==0
 |prev,left,x::l=>(checkV x.v==0)&&((x.v.k==0||x.v.k==t)&&(decide (1≤x.n)&&(decide (x.n≤left)&&(prevOk prev x.v&&bagG t (some x.v) (left-x.n) l))))
def bagB (p:Pl) (a:Int×Int) (n:Int) (bag:List Tl):Bool:=if a.1=1 then bag.isEmpty else bagG ((allT p).getD a.2.toNat 0) none n bag
def groupB (p:Pl) (g:Gp):Bool:=
 (keyErr g.r==0)&&((g.r.length==(ownT p).length)&&(((ownT p).zip g.r).all fitOne&&(btw g.n 1 1073741824&&((g.bags.length==p.aggs.length)&&(p.aggs.zip g.bags).all fun q=>bagB p q.1 g.n q.2))))
def risesG (l:List Gp):Bool:=(List.range l.length).all fun i=>match l[i]?,l[i+1]? with
 |some a,some b=>decide (rowsF a.r b.r<0)
 |_,_=>true
def checkG (p:Pl) (l:List Gp):Int:=
 if checkP p≠0 then checkP p else if p.grouped=false then 1 else if 4096<l.length then 2 else if(l.all (groupB p)&&risesG l)=true then 0 else 1
def nullG:Val:=⟨0,0,⟨#[]⟩⟩
def wrapI (n:Int):Int:=IntKind.i64.wrap n
def sumG (bag:List Tl):Int:=bag.foldl (fun s x=>wrapI (s+wrapI (x.v.n*x.n))) 0
def solid (bag:List Tl):List Tl:=match bag with
 |x::t=>if x.v.k=0 then t else x::t
 |[]=>[]
def figG (fn:Int) (n:Int) (bag:List Tl):Val:=
 if fn=1 then⟨2,n,⟨#[]⟩⟩else match solid bag with
 |[]=>nullG
 |x::t=>if fn=3 then x.v else if fn=4 then((x::t).getLast (by simp)).v else⟨2,sumG (x::t),⟨#[]⟩⟩
def rowG (p:Pl) (g:Gp):List Val:=g.r++(p.aggs.zip g.bags).map fun q=>figG q.1.1 g.n q.2
end Go.Proofs.YtjhbeecmdgglgaaGreatDoor
