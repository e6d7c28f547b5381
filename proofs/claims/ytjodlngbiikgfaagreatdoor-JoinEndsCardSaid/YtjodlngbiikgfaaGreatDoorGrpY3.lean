/-Plans: the reference's wrongKind, wrongRange, wrongMany, once. Plans: the reference's wrongForm. -/
import Derived.Test.YtjodlngbiikgfaaGreatDoorGrpK8
import Derived.Test.YtjodlngbiikgfaaGreatDoorGrpY2
set_option linter.unusedSimpArgs false
set_option linter.unusedVariables false
namespace Go.Proofs.YtjodlngbiikgfaaGreatDoor
open Go.RowKit
open tm (fitsB rfits_any)
set_option maxHeartbeats 4000000 in
set_option maxRecDepth 10000 in
theorem wrongKind_any (p:Pl)(w:World)(ha:Sl w p.va p.aggs.length (aggCells p.aggs)):
 Calls Tryz.prog 35 #[.agg #[.int .i64 p.kind,.int .i64 p.mode,.int .i64 p.low,.int .i64 p.high,.int .i64 p.size,.int .i64 p.limit,p.vl,p.vr,p.vk,p.vq,.bool p.grouped,p.vg,p.va]] w fun e w'=>e= .returned (.bool (!kindsB p))∧Below w.heap.size w w':=by
 have hB:=below_alloc w (.cells #[.int .i64 p.kind,.int .i64 p.mode,.int .i64 p.low,.int .i64 p.high,.int .i64 p.size,.int .i64 p.limit,p.vl,p.vr,p.vk,p.vq,.bool p.grouped,p.vg,p.va] 25);have HA:=Lib.hid ha;have E:Hid (kindsB p=(btw p.kind 1 3&&(btw p.mode 1 (if p.kind=3 then 2 else 4)&&(!p.grouped||allB (fun a=>btw a.1 1 4) p.aggs)))):=Lib.hid rfl;generalize kindsB p=R at E⊢;clear ha;obtain⟨kind,mode,low,high,size,limit,vl,vr,vk,vq,grouped,vg,va,left,right,lkeys,rkeys,group,aggs⟩:=p;simp only at hB HA E⊢;obtain⟨A5,c5,rfl,n5,m5,-⟩:=id HA.out;unfold maxLen at m5;cases h1:btw kind 1 3
 ·have e:=E.out
  simp only[h1,Bool.false_and]at e;have EE:=Lib.hid e;clear e E;go_enter Tryz.func35,Tryz.ntmps35
  go_wp2_with (go_at_call 34;refine(within_any _ _ _ _).mono ?_;rintro e w' ⟨rfl,rfl⟩)
  go_ret;exact⟨ret_bool (by rw[EE.out];rfl),hB⟩
 ·cases h2:btw mode 1 4
  ·have h2':btw mode 1 (if kind=3 then 2 else 4)=false:=by
    have:=btw_ne h2;split
    ·exact btw_no (by omega)
    ·exact h2
   have e:=E.out;simp only[h1,h2',Bool.false_and,Bool.true_and]at e;have EE:=Lib.hid e;clear e E h2';go_enter Tryz.func35,Tryz.ntmps35
   go_wp2_with (go_at_call 34;refine(within_any _ _ _ _).mono ?_;rintro e w' ⟨rfl,rfl⟩)
   go_ret;exact⟨ret_bool (by rw[EE.out];rfl),hB⟩
  ·by_cases h3:kind=3∧2<mode
   ·obtain⟨h3,h4⟩:=h3
    have hb:=beqT h3;have h2':btw mode 1 (if kind=3 then 2 else 4)=false:=by rw[if_pos h3];exact btw_no (by omega)
    have e:=E.out;simp only[h1,h2',Bool.false_and,Bool.true_and]at e;have EE:=Lib.hid e;clear e E h2' h3;go_enter Tryz.func35,Tryz.ntmps35
    go_wp2_with (go_at_call 34;refine(within_any _ _ _ _).mono ?_;rintro e w' ⟨rfl,rfl⟩)
    go_ret;exact⟨ret_bool (by rw[EE.out];rfl),hB⟩
   ·have h2':btw mode 1 (if kind=3 then 2 else 4)=true:=by
     have:=btw_of h2;split
     ·exact btw_yes (by omega) (by omega)
     ·exact h2
    have hd:((kind==3)=true∧ ¬2<mode)∨((kind==3)=false):=by
     by_cases hk:kind=3
     ·exact .inl ⟨beqT hk,fun h=>h3 ⟨hk,h⟩⟩
     ·exact .inr (beqF hk)
    have e:=E.out;simp only[h1,h2',Bool.true_and]at e;have EE:=Lib.hid e;clear e E h2' h3;rcases hd with⟨hb,hd⟩|hb
    all_goals
     go_enter Tryz.func35,Tryz.ntmps35
     go_wp2_with (go_at_call 34;refine(within_any _ _ _ _).mono ?_;rintro e w' ⟨rfl,rfl⟩)
     clear h1 h2;cases grouped
     ·go_loop [3] (fun i=> ∃k:Nat,k≤aggs.length∧i= .int .i64 k) (fun i=>aggs.length-(intOf i).toNat)
      case atStart=>exact⟨0,by omega,rfl⟩
      case round=>
       obtain⟨k,hk,rfl⟩:=hrel;by_cases hlt:k<aggs.length
       ·go_wp2
        go_round
        case rel=>exact⟨k+1,by omega,by go_num⟩
        case measure=>simp[intOf];omega
       ·obtain rfl:k=aggs.length:=by omega
        go_wp2;go_ret;exact⟨ret_bool (by rw[EE.out];rfl),hB⟩
     ·go_loop [3] (fun i=> ∃k:Nat,k≤aggs.length∧i= .int .i64 k∧Hid (∀x∈aggs.take k,btw x.1 1 4=true)) (fun i=>aggs.length-(intOf i).toNat)
      case atStart=>exact⟨0,by omega,rfl,by simp[Hid]⟩
      case round=>
       obtain⟨k,hk,rfl,H⟩:=hrel;by_cases hlt:k<aggs.length
       ·have hx:=List.getElem?_eq_getElem (l:=aggs) hlt
        generalize aggs[k]=x at hx;obtain⟨g,off,rfl,-,hc⟩:=agg_at HA.out rfl hx;obtain⟨d1,d2⟩:=hc _ hB;have HX:=Lib.hid hx;clear hx hc;cases hq:btw x.1 1 4
        ·have e1:=Lib.hid (all_no (f:=fun a=>btw a.1 1 4) HX.out hq)
         go_wp2_with (go_at_call 34;refine(within_any _ _ _ _).mono ?_;rintro e w' ⟨rfl,rfl⟩)
         go_ret;exact⟨ret_bool (by rw[EE.out,e1.out];rfl),hB⟩
        ·have e1:=Lib.hid (all_step (f:=fun a=>btw a.1 1 4) H.out HX.out hq)
         go_wp2_with (go_at_call 34;refine(within_any _ _ _ _).mono ?_;rintro e w' ⟨rfl,rfl⟩)
         go_round
         case rel=>exact⟨k+1,by omega,by go_num,e1.out⟩
         case measure=>simp[intOf];omega
       ·obtain rfl:k=aggs.length:=by omega
        have e1:=Lib.hid (all_yes (f:=fun a:Int×Int=>btw a.1 1 4) H.out);go_wp2;go_ret;exact⟨ret_bool (by rw[EE.out,e1.out];rfl),hB⟩
set_option maxHeartbeats 4000000 in
set_option maxRecDepth 10000 in
theorem wrongRange_any (p:Pl)(w:World):
 Calls Tryz.prog 36 #[.agg #[.int .i64 p.kind,.int .i64 p.mode,.int .i64 p.low,.int .i64 p.high,.int .i64 p.size,.int .i64 p.limit,p.vl,p.vr,p.vk,p.vq,.bool p.grouped,p.vg,p.va]] w fun e w'=>e= .returned (.bool (!rangesB p))∧Below w.heap.size w w':=by
 have hB:=below_alloc w (.cells #[.int .i64 p.kind,.int .i64 p.mode,.int .i64 p.low,.int .i64 p.high,.int .i64 p.size,.int .i64 p.limit,p.vl,p.vr,p.vk,p.vq,.bool p.grouped,p.vg,p.va] 25);obtain⟨kind,mode,low,high,size,limit,vl,vr,vk,vq,grouped,vg,va,left,right,lkeys,rkeys,group,aggs⟩:=p;simp only at hB⊢;by_cases hk:kind=1
 ·have hb:=beqT hk
  have hb2:(kind==2)=false:=beqF (by omega);have g:=bne_of hb;have g2:=bne_of hb2;simp only[Bool.not_true,Bool.not_false]at g g2;have H:=Lib.hid (show rangesB ⟨kind,mode,low,high,size,limit,vl,vr,vk,vq,grouped,vg,va,left,right,lkeys,rkeys,group,aggs⟩=((fitsB low&&(fitsB high&&size==0))&&btw limit 1 64)from by simp[rangesB,hk]);clear hk;cases h1:fitsB low<;>cases h2:fitsB high<;>cases h3:(size==0)<;>cases h4:btw limit 1 64
  all_goals
   have g3:=bne_of h3;simp only[Bool.not_true,Bool.not_false]at g3;have R:=Lib.hid (H.out.trans (by rw[h1,h2,h3,h4]));clear H;go_enter Tryz.func36,Tryz.ntmps36
   go_wp2_with (first
    |(go_at_call 34;refine(within_any _ _ _ _).mono ?_;rintro e w' ⟨rfl,rfl⟩)
    |(go_at_call 79;refine(rfits_any _ _).mono ?_;rintro e w' ⟨rfl,rfl⟩))
   go_ret;exact⟨ret_bool (by rw[R.out];rfl),hB⟩
 ·have hb:=beqF hk
  have g:=bne_of hb;simp only[Bool.not_true,Bool.not_false]at g;by_cases hk2:kind=2
  ·have hb2:=beqT hk2
   have g2':=bne_of hb2;simp only[Bool.not_true,Bool.not_false]at g2';have H:=Lib.hid (show rangesB ⟨kind,mode,low,high,size,limit,vl,vr,vk,vq,grouped,vg,va,left,right,lkeys,rkeys,group,aggs⟩=((low==0&&(high==0&&btw size 1 1099511627776))&&btw limit 1 64)from by simp[rangesB,hk2]);clear hk hk2;cases h1:(low==0)<;>cases h2:(high==0)<;>cases h3:btw size 1 1099511627776<;>cases h4:btw limit 1 64
   all_goals
    have g1:=bne_of h1;have g2:=bne_of h2;simp only[Bool.not_true,Bool.not_false]at g1 g2;have R:=Lib.hid (H.out.trans (by rw[h1,h2,h3,h4]));clear H;go_enter Tryz.func36,Tryz.ntmps36
    go_wp2_with (go_at_call 34;refine(within_any _ _ _ _).mono ?_;rintro e w' ⟨rfl,rfl⟩)
    go_ret;exact⟨ret_bool (by rw[R.out];rfl),hB⟩
  ·have hb2:=beqF hk2
   have g2':=bne_of hb2;simp only[Bool.not_true,Bool.not_false]at g2';have H:=Lib.hid (show rangesB ⟨kind,mode,low,high,size,limit,vl,vr,vk,vq,grouped,vg,va,left,right,lkeys,rkeys,group,aggs⟩=((low==0&&(high==0&&size==0))&&btw limit 1 64)from by simp[rangesB,hk,hk2]);clear hk hk2;cases h1:(low==0)<;>cases h2:(high==0)<;>cases h3:(size==0)<;>cases h4:btw limit 1 64
   all_goals
    have g1:=bne_of h1;have g2:=bne_of h2;have g3:=bne_of h3;simp only[Bool.not_true,Bool.not_false]at g1 g2 g3;have R:=Lib.hid (H.out.trans (by rw[h1,h2,h3,h4]));clear H;go_enter Tryz.func36,Tryz.ntmps36
    go_wp2_with (go_at_call 34;refine(within_any _ _ _ _).mono ?_;rintro e w' ⟨rfl,rfl⟩)
    go_ret;exact⟨ret_bool (by rw[R.out];rfl),hB⟩
end Go.Proofs.YtjodlngbiikgfaaGreatDoor
namespace Go.Proofs.YtjodlngbiikgfaaGreatDoor
open Go.RowKit Go.Maps
theorem within_q {n lo hi:Int}{q:Bool}{w:World}{a m:Nat}(h:btw n lo hi=q):Calls Tryz.prog 34 #[.int .i64 n,.int .i64 lo,.int .i64 hi] (w.drewN (a+m)) fun e w'=>e= .returned (.bool q)∧ ∃k,w'=w.drewN (a+k):=
 (within_any n lo hi _).mono fun e w' h'=>⟨by rw[h'.1,h],m,h'.2.symm⟩
set_option maxHeartbeats 8000000 in
set_option maxRecDepth 10000 in
theorem wrongForm_any (p:Pl)(w:World)(h:p.ok w)(hs:p.short):
 Calls Tryz.prog 39 #[.agg #[.int .i64 p.kind,.int .i64 p.mode,.int .i64 p.low,.int .i64 p.high,.int .i64 p.size,.int .i64 p.limit,p.vl,p.vr,p.vk,p.vq,.bool p.grouped,p.vg,p.va]] w fun e w'=>e= .returned (.bool (!formR p))∧Below w.heap.size w w':=by
 have E:Hid (formR p=(!(decide (p.high<p.low))&&((p.lkeys.length==p.rkeys.length)&&(onceB p.lkeys&&(onceB p.rkeys&&(onceB p.group&&(allB (pairR p.left p.right) (p.lkeys.zip p.rkeys)&&(allB (fun x=>btw x 0 (((p.left++p.right).length:Int)-1)) p.group&&allB (aggOk (p.left++p.right)) p.aggs)))))))):=Lib.hid rfl;generalize formR p=R at E⊢;have HTY:=Lib.hid (fun w' (hb:Below w.heap.size w w')=>types_any p w' (h.below hb) (by have:=hs.l2;omega) (by have:=hs.r2;omega));have HL:=Lib.hid h.l;have HR:=Lib.hid h.r;have HK:=Lib.hid h.k;have HQ:=Lib.hid h.q;have HG:=Lib.hid h.g;have HA:=Lib.hid h.a;obtain⟨l1,l2,r1,r2,k1,k2,q1,q2,g1,a1⟩:=hs;clear h;obtain⟨kind,mode,low,high,size,limit,vl,vr,vk,vq,grouped,vg,va,left,right,lkeys,rkeys,group,aggs⟩:=p;simp only at HTY HL HR HK HQ HG HA E l1 l2 r1 r2 k1 k2 q1 q2 g1 a1⊢;obtain⟨A0,c0,rfl,n0,m0,-⟩:=id HL.out;obtain⟨A1,c1,rfl,n1,m1,-⟩:=id HR.out;obtain⟨A2,c2,rfl,n2,m2,-⟩:=id HK.out;obtain⟨A3,c3,rfl,n3,m3,-⟩:=id HQ.out;obtain⟨A4,c4,rfl,n4,m4,-⟩:=id HG.out;obtain⟨A5,c5,rfl,n5,m5,-⟩:=id HA.out;have hB0:=below_alloc w (.cells #[.int .i64 kind,.int .i64 mode,.int .i64 low,.int .i64 high,.int .i64 size,.int .i64 limit,.slice A0 left.length c0,.slice A1 right.length c1,.slice A2 lkeys.length c2,.slice A3 rkeys.length c3,.bool grouped,.slice A4 group.length c4,.slice A5 aggs.length c5] 25);have KP:=Blk.new w 25 #[.int .i64 kind,.int .i64 mode,.int .i64 low,.int .i64 high,.int .i64 size,.int .i64 limit,.slice A0 left.length c0,.slice A1 right.length c1,.slice A2 lkeys.length c2,.slice A3 rkeys.length c3,.bool grouped,.slice A4 group.length c4,.slice A5 aggs.length c5];unfold maxLen at m0 m1 m2 m3 m4 m5;have HB0:=Lib.hid hB0;by_cases hpre:high<low∨lkeys.length≠rkeys.length∨onceB lkeys=false∨onceB rkeys=false∨onceB group=false
 ·have EE:Hid (R=false):=Lib.hid (by
   rw[E.out];rcases hpre with h|h|h|h|h
   ·simp[h]
   ·simp[h]
   ·simp[h]
   ·simp[h]
   ·simp[h])
  clear E;by_cases o1:high<low
  ·clear hpre
   go_enter Tryz.func39,Tryz.ntmps39
   go_wp2;go_ret;exact⟨ret_bool (by rw[EE.out];rfl),HB0.out⟩
  ·by_cases o2:lkeys.length=rkeys.length
   ·have b2:((lkeys.length:Int)==(rkeys.length:Int))=true:=by simp[o2]
    have b2':=bne_of b2;simp only[Bool.not_true]at b2'
    have hp2:onceB lkeys=false∨onceB rkeys=false∨onceB group=false:=by
     rcases hpre with h|h|h
     ·exact absurd h o1
     ·exact absurd o2 h
     ·exact h
    clear hpre o2;cases u1:onceB lkeys
    ·clear hp2
     have U1:=Lib.hid u1;clear u1;go_enter Tryz.func39,Tryz.ntmps39
     go_wp2_with fail
     refine(once_any _ lkeys _ (HK.out.below HB0.out)).mono ?_;rw[U1.out];rintro e w1 ⟨rfl,hb1⟩;go_wp2;go_ret;exact⟨ret_bool (by rw[EE.out];rfl),below_trans HB0.out hb1⟩
    ·cases u2:onceB rkeys
     ·clear hp2
      have U1:=Lib.hid u1;have U2:=Lib.hid u2;clear u1 u2;go_enter Tryz.func39,Tryz.ntmps39
      go_wp2_with fail
      refine(once_any _ lkeys _ (HK.out.below HB0.out)).mono ?_;rw[U1.out];rintro e w1 ⟨rfl,hb1⟩;have hB1:=below_trans HB0.out hb1;have y9:=(KP.below hb1).cell 9 _ rfl
      go_wp2_with fail
      refine(once_any _ rkeys _ (HQ.out.below hB1)).mono ?_;rw[U2.out];rintro e w2 ⟨rfl,hb2⟩;have hB2:=below_trans hB1 hb2;have y11:=((KP.below hb1).below hb2).cell 11 _ rfl;go_wp2;go_ret;exact⟨ret_bool (by rw[EE.out];rfl),below_trans hB1 hb2⟩
     ·have u3:onceB group=false:=by
       rcases hp2 with h|h|h
       ·rw[u1]at h;cases h
       ·rw[u2]at h;cases h
       ·exact h
      clear hp2;have U1:=Lib.hid u1;have U2:=Lib.hid u2;have U3:=Lib.hid u3;clear u1 u2 u3;go_enter Tryz.func39,Tryz.ntmps39
      go_wp2_with fail
      refine(once_any _ lkeys _ (HK.out.below HB0.out)).mono ?_;rw[U1.out];rintro e w1 ⟨rfl,hb1⟩;have hB1:=below_trans HB0.out hb1;have y9:=(KP.below hb1).cell 9 _ rfl
      go_wp2_with fail
      refine(once_any _ rkeys _ (HQ.out.below hB1)).mono ?_;rw[U2.out];rintro e w2 ⟨rfl,hb2⟩;have hB2:=below_trans hB1 hb2;have y11:=((KP.below hb1).below hb2).cell 11 _ rfl
      go_wp2_with fail
      refine(once_any _ group _ (HG.out.below hB2)).mono ?_;rw[U3.out];rintro e w3 ⟨rfl,hb3⟩;go_wp2;go_ret;exact⟨ret_bool (by rw[EE.out];rfl),below_trans hB2 hb3⟩
   ·have b2:((lkeys.length:Int)==(rkeys.length:Int))=false:=by simp;omega
    have b2':=bne_of b2;simp only[Bool.not_false]at b2';clear hpre o2;go_enter Tryz.func39,Tryz.ntmps39
    go_wp2;go_ret;exact⟨ret_bool (by rw[EE.out];rfl),HB0.out⟩
 ·have o1: ¬high<low:=fun h=>hpre (.inl h)
  have o2:lkeys.length=rkeys.length:=Classical.byContradiction fun h=>hpre (.inr (.inl h));have u1:onceB lkeys=true:=by cases h:onceB lkeys;exact absurd (.inr (.inr (.inl h))) hpre;rfl
  have u2:onceB rkeys=true:=by cases h:onceB rkeys;exact absurd (.inr (.inr (.inr (.inl h)))) hpre;rfl
  have u3:onceB group=true:=by cases h:onceB group;exact absurd (.inr (.inr (.inr (.inr h)))) hpre;rfl
  clear hpre
  have E2:Hid (R=(allB (pairR left right) (lkeys.zip rkeys)&&(allB (fun x=>btw x 0 (((left++right).length:Int)-1)) group&&allB (aggOk (left++right)) aggs))):=Lib.hid (by
   rw[E.out,u1,u2,u3];simp[o1,o2])
  clear E;have b2:((lkeys.length:Int)==(rkeys.length:Int))=true:=by simp[o2]
  have b2':=bne_of b2;simp only[Bool.not_true]at b2';have hkq:lkeys.length≤rkeys.length:=by omega
  have HO2:=Lib.hid o2;clear o2;have U1:=Lib.hid u1;have U2:=Lib.hid u2;have U3:=Lib.hid u3;clear u1 u2 u3;go_enter Tryz.func39,Tryz.ntmps39
  go_wp2_with fail
  refine(once_any _ lkeys _ (HK.out.below HB0.out)).mono ?_;rw[U1.out];rintro e w1 ⟨rfl,hb1⟩;have hB1:=below_trans HB0.out hb1;have y9:=(KP.below hb1).cell 9 _ rfl
  go_wp2_with fail
  refine(once_any _ rkeys _ (HQ.out.below hB1)).mono ?_;rw[U2.out];rintro e w2 ⟨rfl,hb2⟩;have hB2:=below_trans hB1 hb2;have y11:=((KP.below hb1).below hb2).cell 11 _ rfl
  go_wp2_with fail
  refine(once_any _ group _ (HG.out.below hB2)).mono ?_;rw[U3.out];rintro e w3 ⟨rfl,hb3⟩;have P3:=((KP.below hb1).below hb2).below hb3;have hB3:=below_trans hB2 hb3;clear KP y9 y11 hb1 hb2 hb3 hB1 hB2
  go_wp2_with fail
  have y3_8:=P3.cell 8 _ rfl;clear y3_8
  go_loopw[3,4,5] (fun i _ _ wr=> ∃k:Nat,k≤lkeys.length∧i= .int .i64 k∧Hid (∀q∈(lkeys.zip rkeys).take k,pairR left right q=true)∧Below w3.heap.size w3 wr) (fun i _ _ _=>lkeys.length-(intOf i).toNat)
  case atStart=>exact⟨0,by omega,rfl,by simp[Hid],Below.refl _ _⟩
  case round=>
   obtain⟨k,hk,rfl,H,hbw⟩:=hrel;have hBw:=hB3.trans (hbw.mono hB3.size);have P4:=P3.below hbw;by_cases hlt:k<lkeys.length
   ·have hltq:k<rkeys.length:=by omega
    obtain⟨bk,ok,hAk,-,hck⟩:=int_at HK.out rfl hlt;obtain⟨bq,oq,hAq,-,hcq⟩:=int_at HQ.out rfl hltq;have gk:lkeys[k]?=some (lkeys.getD k 0):=by simp[hlt]
    have gq:rkeys[k]?=some (rkeys.getD k 0):=by simp[hltq]
    have d1:=hck _ hBw;have d2:=hcq _ hBw;have GZ:=Lib.hid (show(lkeys.zip rkeys)[k]?=some (lkeys.getD k 0,rkeys.getD k 0)from by rw[List.getElem?_zip_eq_some];exact⟨gk,gq⟩);generalize lkeys.getD k 0=x at d1 GZ;generalize rkeys.getD k 0=y at d2 GZ;clear gk gq hck hcq;subst hAk hAq;have k0:(0:Int)≤(k:Int):=by omega
    have k1':(k:Int)<(lkeys.length:Int):=by omega
    have k2':(k:Int)<(rkeys.length:Int):=by omega
    have y6:=P4.cell 6 _ rfl;have y7:=P4.cell 7 _ rfl;have y8:=P4.cell 8 _ rfl;have y9:=P4.cell 9 _ rfl;cases h1:btw x 0 ((left.length:Int)-1)
    ·have e1:=Lib.hid (all_no (f:=pairR left right) GZ.out (by simp[pairR,h1]))
     have EE:Hid (R=false):=Lib.hid (by rw[E2.out,e1.out];rfl)
     go_wp2_with fail
     go_quiet (fail)
     go_wp2_with fail
     go_quiet ((go_at_call 34;exact within_q h1))
     go_wp2;go_ret;exact⟨ret_bool (by rw[EE.out];rfl),below_drewN (below_drewN hBw _) _⟩
    ·cases h2:btw y 0 ((right.length:Int)-1)
     ·have e1:=Lib.hid (all_no (f:=pairR left right) GZ.out (by simp[pairR,h1,h2]))
      have EE:Hid (R=false):=Lib.hid (by rw[E2.out,e1.out];rfl)
      go_wp2_with fail
      go_quiet (fail)
      go_wp2_with fail
      go_quiet ((go_at_call 34;first|exact within_q h1|exact within_q h2))
      go_wp2;go_ret;exact⟨ret_bool (by rw[EE.out];rfl),below_drewN (below_drewN hBw _) _⟩
     ·obtain⟨x0,x1⟩:=btw_of h1
      obtain⟨z0,z1⟩:=btw_of h2;obtain⟨a,rfl⟩: ∃a:Nat,x=a:=⟨x.toNat,by omega⟩;obtain⟨b,rfl⟩: ∃b:Nat,y=b:=⟨y.toNat,by omega⟩;have ra:a<left.length:=by omega
      have rb:b<right.length:=by omega
      obtain⟨bl,ol,hAl,-,hcl⟩:=int_at HL.out rfl ra;obtain⟨br,orr,hAr,-,hcr⟩:=int_at HR.out rfl rb;have d3:=hcl _ hBw;have d4:=hcr _ hBw;have GP:=Lib.hid (show pairR left right ((a:Int),(b:Int))=(left.getD a 0==right.getD b 0)from by simp[pairR,h1,h2,pairOk]);generalize left.getD a 0=X at d3 GP;generalize right.getD b 0=Y at d4 GP;clear hcl hcr;subst hAl hAr;have a0:(0:Int)≤(a:Int):=by omega
      have a1':(a:Int)<(left.length:Int):=by omega
      have b0:(0:Int)≤(b:Int):=by omega
      have b1':(b:Int)<(right.length:Int):=by omega
      cases hq:(X==Y)
      ·have g3:=bne_of hq
       simp only[Bool.not_false]at g3;have e1:=Lib.hid (all_no (f:=pairR left right) GZ.out (by rw[GP.out,hq]));have EE:Hid (R=false):=Lib.hid (by rw[E2.out,e1.out];rfl)
       go_wp2_with fail
       go_quiet (fail)
       go_wp2_with fail
       go_quiet ((go_at_call 34;first|exact within_q h1|exact within_q h2))
       go_wp2;go_ret;exact⟨ret_bool (by rw[EE.out];rfl),below_drewN (below_drewN hBw _) _⟩
      ·have g3:=bne_of hq
       simp only[Bool.not_true]at g3;have e1:=Lib.hid (all_step (f:=pairR left right) H.out GZ.out (by rw[GP.out,hq]))
       go_wp2_with fail
       go_quiet (fail)
       go_wp2_with fail
       go_quiet ((go_at_call 34;first|exact within_q h1|exact within_q h2))
       go_wp2;go_roundw
       case rel=>exact⟨k+1,by omega,by go_num,e1.out,below_drewN hbw _⟩
       case measure=>simp[intOf];omega
   ·obtain rfl:k=lkeys.length:=by omega
    have e1:=Lib.hid (show allB (pairR left right) (lkeys.zip rkeys)=true from all_yes (by
     have hzl:(lkeys.zip rkeys).length=lkeys.length:=by rw[List.length_zip];omega
     rw[hzl];exact H.out))
    have E3:Hid (R=(allB (fun x=>btw x 0 (((left++right).length:Int)-1)) group&&allB (aggOk (left++right)) aggs)):=Lib.hid (by rw[E2.out,e1.out];rfl);clear E2 e1 H;have y0:=P4.cell 0 _ rfl;have y1:=P4.cell 1 _ rfl;have y2:=P4.cell 2 _ rfl;have y3:=P4.cell 3 _ rfl;have y4:=P4.cell 4 _ rfl;have y5:=P4.cell 5 _ rfl;have y6:=P4.cell 6 _ rfl;have y7:=P4.cell 7 _ rfl;have y8:=P4.cell 8 _ rfl;have y9:=P4.cell 9 _ rfl;have y10:=P4.cell 10 _ rfl;have y11:=P4.cell 11 _ rfl;have y12:=P4.cell 12 _ rfl
    go_wp2_with fail
    refine(HTY.out _ hBw).mono ?_;rintro e w5 ⟨vt,rfl,hst,-,hb5⟩;have P5:=P4.below hb5;have hB5:=below_trans hBw hb5;clear y0 y1 y2 y3 y4 y5 y6 y7 y8 y9 y10 y11 y12 P4 hbw hBw hb5 P3 hB3 hk HTY;have hz:(left++right).length≤8:=by rw[List.length_append];omega
    have hz1:1≤(left++right).length:=by rw[List.length_append];omega
    generalize ht:left++right=t at hst hz hz1 E3;clear ht;have HS:=Lib.hid hst;obtain⟨A6,c6,rfl,n6,m6,-⟩:=hst;unfold maxLen at m6;have y11:=P5.cell 11 _ rfl
    go_wp2_with fail
    go_loopw[7] (fun i wr=> ∃k:Nat,k≤group.length∧i= .int .i64 k∧Hid (∀x∈group.take k,btw x 0 ((t.length:Int)-1)=true)∧w5=wr) (fun i _=>group.length-(intOf i).toNat)
    case atStart=>exact⟨0,by omega,rfl,by simp[Hid],rfl⟩
    case round=>
     obtain⟨k,hk,rfl,H,rfl⟩:=hrel;by_cases hlt:k<group.length
     ·obtain⟨bg,og,hAg,-,hcg⟩:=int_at HG.out rfl hlt
      have d1:=hcg _ hB5;have gk:group[k]?=some (group.getD k 0):=by simp[hlt]
      generalize group.getD k 0=x at d1 gk;have GX:=Lib.hid gk;clear gk hcg;subst hAg;cases h1:btw x 0 ((t.length:Int)-1)
      ·have e1:=Lib.hid (all_no (f:=fun x=>btw x 0 ((t.length:Int)-1)) GX.out h1)
       have EE:Hid (R=false):=Lib.hid (by rw[E3.out,e1.out];rfl)
       go_wp2_with (go_at_call 34;refine(within_any _ _ _ _).mono ?_;rintro e w' ⟨rfl,rfl⟩)
       go_ret;exact⟨ret_bool (by rw[EE.out];rfl),hB5⟩
      ·have e1:=Lib.hid (all_step (f:=fun x=>btw x 0 ((t.length:Int)-1)) H.out GX.out h1)
       go_wp2_with (go_at_call 34;refine(within_any _ _ _ _).mono ?_;rintro e w' ⟨rfl,rfl⟩)
       go_roundw
       case rel=>exact⟨k+1,by omega,by go_num,e1.out,trivial⟩
       case measure=>simp[intOf];omega
     ·obtain rfl:k=group.length:=by omega
      have e1:=Lib.hid (all_yes (f:=fun x=>btw x 0 ((t.length:Int)-1)) H.out);have E4:Hid (R=allB (aggOk t) aggs):=Lib.hid (by rw[E3.out,e1.out];rfl);clear E3 e1 H;have y12:=P5.cell 12 _ rfl;clear y12
      go_wp2_with fail
      go_loopw[8,9] (fun i _ wr=> ∃k:Nat,k≤aggs.length∧i= .int .i64 k∧Hid (∀x∈aggs.take k,aggOk t x=true)∧Below w5.heap.size w5 wr) (fun i _ _=>aggs.length-(intOf i).toNat)
      case atStart=>exact⟨0,by omega,rfl,by simp[Hid],Below.refl _ _⟩
      case round=>
       obtain⟨k,hk,rfl,H,hbw⟩:=hrel;have hBw:=hB5.trans (hbw.mono hB5.size);have y12:=(P5.below hbw).cell 12 _ rfl;by_cases hlt:k<aggs.length
       ·have hx:=List.getElem?_eq_getElem (l:=aggs) hlt
        generalize aggs[k]=x at hx;obtain⟨g,off,rfl,-,hc⟩:=agg_at HA.out rfl hx;obtain⟨d1,d2⟩:=hc _ hBw;have HX:=Lib.hid hx;have hbw2:=hbw.alloc hbw.size (.cells #[.int .i64 x.1,.int .i64 x.2] 78);have hBw2:=hB5.trans (hbw2.mono hB5.size);have HST:=Lib.hid (HS.out.below hbw2);clear hx hc;obtain⟨f,c⟩:=x;simp only at d1 d2 hbw2 hBw2 HST;by_cases hf:f=1
        ·have hb:=beqT hf
         have hb':=bne_of hb;simp only[Bool.not_true]at hb';have hb2:(f==2)=false:=beqF (by omega);have EQ:Hid (aggOk t (f,c)=(c==0)):=Lib.hid (if_pos hf);clear hf;cases hq:(c==0)
         ·have g3:=bne_of hq
          simp only[Bool.not_false]at g3;have e1:=Lib.hid (all_no (f:=aggOk t) HX.out (by rw[EQ.out,hq]));go_wp2;go_ret;exact⟨ret_bool (by rw[E4.out,e1.out];rfl),hBw2⟩
         ·have g3:=bne_of hq
          simp only[Bool.not_true]at g3;have e1:=Lib.hid (all_step (f:=aggOk t) H.out HX.out (by rw[EQ.out,hq]));go_wp2;go_roundw
          case rel=>exact⟨k+1,by omega,by go_num,e1.out,hbw2⟩
          case measure=>simp[intOf];omega
        ·have hb:=beqF hf
         have hb':=bne_of hb;simp only[Bool.not_false]at hb';have EQ:Hid (aggOk t (f,c)=(btw c 0 ((t.length:Int)-1)&&(f != 2||t.getD c.toNat 0==2))):=Lib.hid (if_neg hf);clear hf;cases h2:btw c 0 ((t.length:Int)-1)
         ·have e1:=Lib.hid (all_no (f:=aggOk t) HX.out (by rw[EQ.out,h2];rfl))
          go_wp2_with (go_at_call 34;refine(within_any _ _ _ _).mono ?_;rintro e w' ⟨rfl,rfl⟩)
          go_ret;exact⟨ret_bool (by rw[E4.out,e1.out];rfl),hBw2⟩
         ·obtain⟨b1,b2⟩:=btw_of h2
          obtain⟨m,rfl⟩: ∃m:Nat,c=m:=⟨c.toNat,by omega⟩;have hm:m<t.length:=by omega
          obtain⟨g6,off6,rfl,-,hc⟩:=int_at HST.out rfl hm;have c1:=hc _ (Below.refl _ _);have hmn:((m:Int)).toNat=m:=by omega
          rw[hmn]at EQ;generalize t.getD m 0=Y at c1 EQ;clear hc hmn;cases h3:(f==2)
          ·have g3:=bne_of h3
           simp only[Bool.not_false]at g3;have e1:=Lib.hid (all_step (f:=aggOk t) H.out HX.out (by rw[EQ.out,h2,g3];rfl))
           go_wp2_with (go_at_call 34;refine(within_any _ _ _ _).mono ?_;rintro e w' ⟨rfl,rfl⟩)
           go_roundw
           case rel=>exact⟨k+1,by omega,by go_num,e1.out,hbw2⟩
           case measure=>simp[intOf];omega
          ·have g3:=bne_of h3
           simp only[Bool.not_true]at g3;cases h4:(Y==2)
           ·have g4:=bne_of h4
            simp only[Bool.not_false]at g4;have e1:=Lib.hid (all_no (f:=aggOk t) HX.out (by rw[EQ.out,h2,g3,h4];rfl))
            go_wp2_with (go_at_call 34;refine(within_any _ _ _ _).mono ?_;rintro e w' ⟨rfl,rfl⟩)
            go_ret;exact⟨ret_bool (by rw[E4.out,e1.out];rfl),hBw2⟩
           ·have g4:=bne_of h4
            simp only[Bool.not_true]at g4;have e1:=Lib.hid (all_step (f:=aggOk t) H.out HX.out (by rw[EQ.out,h2,g3,h4];rfl))
            go_wp2_with (go_at_call 34;refine(within_any _ _ _ _).mono ?_;rintro e w' ⟨rfl,rfl⟩)
            go_roundw
            case rel=>exact⟨k+1,by omega,by go_num,e1.out,hbw2⟩
            case measure=>simp[intOf];omega
       ·obtain rfl:k=aggs.length:=by omega
        have e1:=Lib.hid (all_yes (f:=aggOk t) H.out);go_wp2;go_ret;exact⟨ret_bool (by rw[E4.out,e1.out];rfl),hBw⟩
end Go.Proofs.YtjodlngbiikgfaaGreatDoor
