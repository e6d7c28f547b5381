/-Plans: the reference's wrongKind, wrongRange, wrongMany, once. -/
import Derived.Test.YtjhbeecmdgglgaaGreatDoorGrpX7
set_option linter.unusedSimpArgs false
set_option linter.unusedVariables false
namespace Go.Proofs.YtjhbeecmdgglgaaGreatDoor
open Go.RowKit
open tm (fitsB rfits_any)
set_option maxHeartbeats 4000000 in
set_option maxRecDepth 10000 in
theorem wrongKind_any (p:Pl)(w:World)(ha:Sl w p.va p.aggs.length (aggCells p.aggs)):
 Calls Tryz.prog 59 #[.agg #[.int .i64 p.kind,.int .i64 p.mode,.int .i64 p.low,.int .i64 p.high,.int .i64 p.size,.int .i64 p.limit,p.vl,p.vr,p.vk,p.vq,.bool p.grouped,p.vg,p.va]] w fun e w'=>e= .returned (.bool (!kindsB p))∧Below w.heap.size w w':=by
 have hB:=below_alloc w (.cells #[.int .i64 p.kind,.int .i64 p.mode,.int .i64 p.low,.int .i64 p.high,.int .i64 p.size,.int .i64 p.limit,p.vl,p.vr,p.vk,p.vq,.bool p.grouped,p.vg,p.va] 25);have HA:=Lib.hid ha;have E:Hid (kindsB p=(btw p.kind 1 3&&(btw p.mode 1 (if p.kind=3 then 2 else 4)&&(!p.grouped||allB (fun a=>btw a.1 1 4) p.aggs)))):=Lib.hid rfl;generalize kindsB p=R at E⊢;clear ha;obtain⟨kind,mode,low,high,size,limit,vl,vr,vk,vq,grouped,vg,va,left,right,lkeys,rkeys,group,aggs⟩:=p;simp only at hB HA E⊢;obtain⟨A5,c5,rfl,n5,m5,-⟩:=id HA.out;unfold maxLen at m5;cases h1:btw kind 1 3
 ·have e:=E.out
  simp only[h1,Bool.false_and]at e;have EE:=Lib.hid e;clear e E;go_enter Tryz.func59,Tryz.ntmps59
  go_wp2_with (go_at_call 58;refine(within_any _ _ _ _).mono ?_;rintro e w' ⟨rfl,rfl⟩)
  go_ret;exact⟨ret_bool (by rw[EE.out];rfl),hB⟩
 ·cases h2:btw mode 1 4
  ·have h2':btw mode 1 (if kind=3 then 2 else 4)=false:=by
    have:=btw_ne h2;split
    ·exact btw_no (by omega)
    ·exact h2
   have e:=E.out;simp only[h1,h2',Bool.false_and,Bool.true_and]at e;have EE:=Lib.hid e;clear e E h2';go_enter Tryz.func59,Tryz.ntmps59
   go_wp2_with (go_at_call 58;refine(within_any _ _ _ _).mono ?_;rintro e w' ⟨rfl,rfl⟩)
   go_ret;exact⟨ret_bool (by rw[EE.out];rfl),hB⟩
  ·by_cases h3:kind=3∧2<mode
   ·obtain⟨h3,h4⟩:=h3
    have hb:=beqT h3;have h2':btw mode 1 (if kind=3 then 2 else 4)=false:=by rw[if_pos h3];exact btw_no (by omega)
    have e:=E.out;simp only[h1,h2',Bool.false_and,Bool.true_and]at e;have EE:=Lib.hid e;clear e E h2' h3;go_enter Tryz.func59,Tryz.ntmps59
    go_wp2_with (go_at_call 58;refine(within_any _ _ _ _).mono ?_;rintro e w' ⟨rfl,rfl⟩)
    go_ret;exact⟨ret_bool (by rw[EE.out];rfl),hB⟩
   ·have h2':btw mode 1 (if kind=3 then 2 else 4)=true:=by
     have:=btw_of h2;split
     ·exact btw_yes (by omega) (by omega)
     ·exact h2
    have hd:((kind==3)=true∧ ¬2<mode)∨((kind==3)=false):=by
     by_cases hk:kind=3
     ·exact .inl ⟨beqT hk,fun h=>h3 ⟨hk,h⟩⟩
     ·exact .inr (beqF hk)
    have e:=E.out;simp only[h1,h2',Bool.true_and]at e;have EE:=Lib.hid e;clear e E h2' h3;rcases hd with⟨hb,hd⟩|hb
    all_goals
     go_enter Tryz.func59,Tryz.ntmps59
     go_wp2_with (go_at_call 58;refine(within_any _ _ _ _).mono ?_;rintro e w' ⟨rfl,rfl⟩)
     clear h1 h2;cases grouped
     ·go_loop [3] (fun i=> ∃k:Nat,k≤aggs.length∧i= .int .i64 k) (fun i=>aggs.length-(intOf i).toNat)
      case atStart=>exact⟨0,by omega,rfl⟩
      case round=>
       obtain⟨k,hk,rfl⟩:=hrel;by_cases hlt:k<aggs.length
       ·go_wp2
        go_round
        case rel=>exact⟨k+1,by omega,by go_num⟩
        case measure=>simp[intOf];omega
       ·obtain rfl:k=aggs.length:=by omega
        go_wp2;go_ret;exact⟨ret_bool (by rw[EE.out];rfl),hB⟩
     ·go_loop [3] (fun i=> ∃k:Nat,k≤aggs.length∧i= .int .i64 k∧Hid (∀x∈aggs.take k,btw x.1 1 4=true)) (fun i=>aggs.length-(intOf i).toNat)
      case atStart=>exact⟨0,by omega,rfl,by simp[Hid]⟩
      case round=>
       obtain⟨k,hk,rfl,H⟩:=hrel;by_cases hlt:k<aggs.length
       ·have hx:=List.getElem?_eq_getElem (l:=aggs) hlt
        generalize aggs[k]=x at hx;obtain⟨g,off,rfl,-,hc⟩:=agg_at HA.out rfl hx;obtain⟨d1,d2⟩:=hc _ hB;have HX:=Lib.hid hx;clear hx hc;cases hq:btw x.1 1 4
        ·have e1:=Lib.hid (all_no (f:=fun a=>btw a.1 1 4) HX.out hq)
         go_wp2_with (go_at_call 58;refine(within_any _ _ _ _).mono ?_;rintro e w' ⟨rfl,rfl⟩)
         go_ret;exact⟨ret_bool (by rw[EE.out,e1.out];rfl),hB⟩
        ·have e1:=Lib.hid (all_step (f:=fun a=>btw a.1 1 4) H.out HX.out hq)
         go_wp2_with (go_at_call 58;refine(within_any _ _ _ _).mono ?_;rintro e w' ⟨rfl,rfl⟩)
         go_round
         case rel=>exact⟨k+1,by omega,by go_num,e1.out⟩
         case measure=>simp[intOf];omega
       ·obtain rfl:k=aggs.length:=by omega
        have e1:=Lib.hid (all_yes (f:=fun a:Int×Int=>btw a.1 1 4) H.out);go_wp2;go_ret;exact⟨ret_bool (by rw[EE.out,e1.out];rfl),hB⟩
set_option maxHeartbeats 4000000 in
set_option maxRecDepth 10000 in
theorem wrongRange_any (p:Pl)(w:World):
 Calls Tryz.prog 60 #[.agg #[.int .i64 p.kind,.int .i64 p.mode,.int .i64 p.low,.int .i64 p.high,.int .i64 p.size,.int .i64 p.limit,p.vl,p.vr,p.vk,p.vq,.bool p.grouped,p.vg,p.va]] w fun e w'=>e= .returned (.bool (!rangesB p))∧Below w.heap.size w w':=by
 have hB:=below_alloc w (.cells #[.int .i64 p.kind,.int .i64 p.mode,.int .i64 p.low,.int .i64 p.high,.int .i64 p.size,.int .i64 p.limit,p.vl,p.vr,p.vk,p.vq,.bool p.grouped,p.vg,p.va] 25);obtain⟨kind,mode,low,high,size,limit,vl,vr,vk,vq,grouped,vg,va,left,right,lkeys,rkeys,group,aggs⟩:=p;simp only at hB⊢;by_cases hk:kind=1
 ·have hb:=beqT hk
  have hb2:(kind==2)=false:=beqF (by omega);have g:=bne_of hb;have g2:=bne_of hb2;simp only[Bool.not_true,Bool.not_false]at g g2;have H:=Lib.hid (show rangesB ⟨kind,mode,low,high,size,limit,vl,vr,vk,vq,grouped,vg,va,left,right,lkeys,rkeys,group,aggs⟩=((fitsB low&&(fitsB high&&size==0))&&btw limit 1 64)from by simp[rangesB,hk]);clear hk;cases h1:fitsB low<;>cases h2:fitsB high<;>cases h3:(size==0)<;>cases h4:btw limit 1 64
  all_goals
   have g3:=bne_of h3;simp only[Bool.not_true,Bool.not_false]at g3;have R:=Lib.hid (H.out.trans (by rw[h1,h2,h3,h4]));clear H;go_enter Tryz.func60,Tryz.ntmps60
   go_wp2_with (first
    |(go_at_call 58;refine(within_any _ _ _ _).mono ?_;rintro e w' ⟨rfl,rfl⟩)
    |(go_at_call 39;refine(rfits_any _ _).mono ?_;rintro e w' ⟨rfl,rfl⟩))
   go_ret;exact⟨ret_bool (by rw[R.out];rfl),hB⟩
 ·have hb:=beqF hk
  have g:=bne_of hb;simp only[Bool.not_true,Bool.not_false]at g;by_cases hk2:kind=2
  ·have hb2:=beqT hk2
   have g2':=bne_of hb2;simp only[Bool.not_true,Bool.not_false]at g2';have H:=Lib.hid (show rangesB ⟨kind,mode,low,high,size,limit,vl,vr,vk,vq,grouped,vg,va,left,right,lkeys,rkeys,group,aggs⟩=((low==0&&(high==0&&btw size 1 1099511627776))&&btw limit 1 64)from by simp[rangesB,hk2]);clear hk hk2;cases h1:(low==0)<;>cases h2:(high==0)<;>cases h3:btw size 1 1099511627776<;>cases h4:btw limit 1 64
   all_goals
    have g1:=bne_of h1;have g2:=bne_of h2;simp only[Bool.not_true,Bool.not_false]at g1 g2;have R:=Lib.hid (H.out.trans (by rw[h1,h2,h3,h4]));clear H;go_enter Tryz.func60,Tryz.ntmps60
    go_wp2_with (go_at_call 58;refine(within_any _ _ _ _).mono ?_;rintro e w' ⟨rfl,rfl⟩)
    go_ret;exact⟨ret_bool (by rw[R.out];rfl),hB⟩
  ·have hb2:=beqF hk2
   have g2':=bne_of hb2;simp only[Bool.not_true,Bool.not_false]at g2';have H:=Lib.hid (show rangesB ⟨kind,mode,low,high,size,limit,vl,vr,vk,vq,grouped,vg,va,left,right,lkeys,rkeys,group,aggs⟩=((low==0&&(high==0&&size==0))&&btw limit 1 64)from by simp[rangesB,hk,hk2]);clear hk hk2;cases h1:(low==0)<;>cases h2:(high==0)<;>cases h3:(size==0)<;>cases h4:btw limit 1 64
   all_goals
    have g1:=bne_of h1;have g2:=bne_of h2;have g3:=bne_of h3;simp only[Bool.not_true,Bool.not_false]at g1 g2 g3;have R:=Lib.hid (H.out.trans (by rw[h1,h2,h3,h4]));clear H;go_enter Tryz.func60,Tryz.ntmps60
    go_wp2_with (go_at_call 58;refine(within_any _ _ _ _).mono ?_;rintro e w' ⟨rfl,rfl⟩)
    go_ret;exact⟨ret_bool (by rw[R.out];rfl),hB⟩
end Go.Proofs.YtjhbeecmdgglgaaGreatDoor
