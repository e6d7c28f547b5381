/-The reference's DiffOf. Diff. -/
import Derived.Test.YtjhbeecmdgglgaaGreatDoorGrpX43
import Derived.Test.YtjhbeecmdgglgaaGreatDoorGrpX23
import Derived.Test.YtjhbeecmdgglgaaGreatDoorGrpX19
set_option linter.unusedSimpArgs false
set_option linter.unusedVariables false
namespace Go.Proofs.YtjhbeecmdgglgaaGreatDoor
open Go.RowKit Go.Maps
def diffS (a b:List Cnt):KL×Int:=
 if chkV a≠0 then([],chkV a)else if chkV b≠0 then([],chkV b)else if(toldS (mergeD (av a) (av b))).2=true then((toldS (mergeD (av a) (av b))).1,0)else([],2)
structure TwoR (w:World) (base:Nat) (vr vn:Value) (xs ys:List Value):Prop where
 rows:w.ownsRow base 43 1 vr xs.length xs
 nums:w.ownsRow base 3 1 vn ys.length ys
 apart: ∀j,vr.ownBlock=some j→vn.ownBlock≠some j
theorem TwoR.nil (w:World)(base:Nat):TwoR w base (.slice none 0 0) (.slice none 0 0) [] []:=⟨⟨rfl,.inl ⟨rfl,rfl⟩⟩,⟨rfl,.inl ⟨rfl,rfl⟩⟩,nofun⟩
theorem TwoR.below {w w':World}{base:Nat}{vr vn:Value}{xs ys:List Value}(h:TwoR w base vr vn xs ys)(hb:Below w.heap.size w w'):TwoR w' base vr vn xs ys:=⟨own_below h.rows hb,own_below h.nums hb,h.apart⟩
theorem TwoR.one {w w':World}{base:Nat}{vr vn v':Value}{xs ys xs':List Value}(h:TwoR w base vr vn xs ys)(hown:w'.ownsRow base 43 1 v' xs'.length xs')(hg:w.grownBy w' vr.ownBlock)(hat:v'.ownBlock=vr.ownBlock∨v'.ownBlock=some w.heap.size):TwoR w' base v' vn xs' ys:=by
 refine⟨hown,h.nums.kept hg ?_,fun j hj=> ?_⟩
 ·cases hn:vn.ownBlock with
  |none=>exact .inl rfl
  |some j=>exact .inr fun e=>h.apart j e.symm hn
 ·rcases hat with e|e
  ·rw[e]at hj;exact h.apart j hj
  ·rw[e]at hj
   injection hj with hj;intro hn;have:=own_lt h.nums j hn;omega
theorem TwoR.two {w w':World}{base:Nat}{vr vn v':Value}{xs ys ys':List Value}(h:TwoR w base vr vn xs ys)(hown:w'.ownsRow base 3 1 v' ys'.length ys')(hg:w.grownBy w' vn.ownBlock)(hat:v'.ownBlock=vn.ownBlock∨v'.ownBlock=some w.heap.size):TwoR w' base vr v' xs ys':=by
 refine⟨h.rows.kept hg ?_,hown,fun j hj hn=> ?_⟩
 ·cases hn:vr.ownBlock with
  |none=>exact .inl rfl
  |some j=>exact .inr fun e=>h.apart j hn e.symm
 ·rcases hat with e|e
  ·rw[e]at hn;exact h.apart j hj hn
  ·rw[e]at hn
   injection hn with hn;have:=own_lt h.rows j hj;omega
structure RowD (w:World) (c:Cnt):Prop where
 sl:Sl w c.v c.r.length (rowCells c.r)
 few:c.r.length≤8
 num: -1099511627776≤c.n∧c.n≤1099511627776
end Go.Proofs.YtjhbeecmdgglgaaGreatDoor
namespace Go.Proofs.YtjhbeecmdgglgaaGreatDoor
open Go.RowKit Go.Maps Go.Sort
theorem entry_row {A:AV}{kl:Lit}{y:DataW Unit}(hat: ∀zd,(mkD A).atKey kl zd=y): ∃p∈A,(kOf p.1).sameKey kl=true∧y= .lit (.int .i64 p.2):=by
 have h0:=hat (.lit (.int .i64 0));have h1:=hat (.lit (.int .i64 1));unfold mkD DataW.atKey at h0 h1;simp only at h0 h1;cases hf:(A.map ent).find? (fun p=>p.1.sameKey kl)with
 |none=>rw[hf]at h0 h1;simp at h0 h1;rw[←h0]at h1;simp at h1
 |some q=>
  have hm:=List.mem_of_find?_eq_some hf;have hk:=List.find?_some hf;obtain⟨p,hp,rfl⟩:=List.mem_map.1 hm;rw[hf]at h0;exact⟨p,hp,hk,h0.symm⟩
theorem same_str {p:List Val}{x:List UInt8}(h:(kOf p).sameKey (.string x)=true):x=keyRow p:=by
 have:(keyRow p==x)=true:=h;exact(by simpa using this:keyRow p=x).symm
structure Part (A B P:AV) (left:Lit→Bool):Prop where
 rises:Rises P
 look: ∀r,GoodR r→lookA P r=lookA B r-(if left (kOf r)=true then 0 else lookA A r)
theorem Part.start {A B:AV}(hA:Rises A)(hB:Rises B):Part A B B (Maps.has (mkD A)):=⟨hB,fun r hr=>by
 rw[mkD_has hA.good hr];cases h:hasA A r with
 |true=>simp
 |false=>rw[has_no_look h];simp⟩
theorem Part.step {A B P:AV}{left:Lit→Bool}{p:List Val×Int}(h:Part A B P left)(hA:Rises A)(hp:p∈A)(hl:left (kOf p.1)=true):Part A B (putA P p.1 (lookA P p.1-p.2)) (fun z=>left z&& !z.sameKey (kOf p.1)):=by
 have hg:=hA.good p hp;refine⟨rises_put h.rises hg,fun r hr=> ?_⟩;have h1:=h.look r hr;rw[look_put h.rises hg hr,kOf_same hr hg,show(decide (rowsF r p.1=0))=decide (r=p.1)from decide_eq_decide.2 (rowsF_zero hr hg)];by_cases e:p.1=r
 ·subst e
  rw[if_pos rfl,h1,hl,look_mem hA hp];simp
 ·rw[if_neg e,h1]
  have e': ¬r=p.1:=fun h=>e h.symm;simp[e']
theorem Part.done {A B P:AV}{left:Lit→Bool}(h:Part A B P left)(hA:Rises A)(hB:Rises B)(hl: ∀kl,left kl=false):toldS P=toldS (mergeD A B):=
 told_ext h.rises (merge_rises hA hB) fun r hr=>by
  rw[h.look r hr,merge_look hA hB hr,hl];simp
theorem Part.nums {A B P:AV}{left:Lit→Bool}(h:Part A B P left)(hA: ∀p∈A,1≤p.2∧p.2≤1073741824)(hB: ∀p∈B,1≤p.2∧p.2≤1073741824)(r:List Val)(hr:GoodR r): -1073741824≤lookA P r∧lookA P r≤1073741824:=by
 rw[h.look r hr];have h1:=look_num r hA;have h2:=look_num r hB;split<;>omega
set_option maxHeartbeats 8000000 in
set_option maxRecDepth 100000 in
theorem cdiff_any (va vb:Value)(a b:List Cnt)(w:World)(ha:View w va a)(hfa:FineV a)(hb:View w vb b)(hfb:FineV b)(hm:Mx w):
 Calls Tryz.prog 25 #[va,vb] w fun e w'=> ∃v l,e= .returned (.tuple #[v,.int .i64 (diffS a b).2])∧Chs w' v l∧ac l=(diffS a b).1∧Below w.heap.size w w':=by
 have HA:=Lib.hid ha;have HB:=Lib.hid hb;have HFA:=Lib.hid hfa;have HFB:=Lib.hid hfb;have HM:=Lib.hid hm;have HE:Hid (diffS a b=if chkV a≠0 then([],chkV a)else if chkV b≠0 then([],chkV b)else if(toldS (mergeD (av a) (av b))).2=true then((toldS (mergeD (av a) (av b))).1,0)else([],2)):=Lib.hid rfl;have HGA:=Lib.hid (chk_zero hfa);have HGB:=Lib.hid (chk_zero hfb);generalize diffS a b=R at HE⊢;obtain⟨Aa,ca,rfl,-⟩:=id ha.sl;obtain⟨Ab,cb,rfl,-⟩:=id hb.sl;clear ha hb hfa hfb hm;generalize hya:chkV a=ya at HE HGA;have HYA:=Lib.hid hya;generalize hyb:chkV b=yb at HE HGB;have HYB:=Lib.hid hyb;clear hya hyb;have HK0:=Lib.hid (Blk.new w 27 #[.slice Aa a.length ca,.slice Ab b.length cb]);have hb0:=below_alloc w (.cells #[.slice Aa a.length ca,.slice Ab b.length cb] 27);go_enter Tryz.func25,Tryz.ntmps25
 go_wp2_with fail
 go_loopw[7,8,18] (fun _ _ i wr=> ∃k:Nat,i= .int .i64 k∧k≤2∧Hid (1≤k→ya=0)∧Hid (2≤k→yb=0)∧Hid (Blk wr w.heap.size 27 #[.slice Aa a.length ca,.slice Ab b.length cb])∧Below w.heap.size w wr) (fun _ _ i _=>2-(intOf i).toNat)
 case atStart=>exact⟨0,rfl,by omega,Lib.hid (fun h=>by omega),Lib.hid (fun h=>by omega),HK0,hb0⟩
 case round=>
  clear HK0 hb0;obtain⟨k,rfl,hk,HZ1,HZ2,HK,hbw⟩:=hrel;have hD:k=0∨k=1∨k=2:=by omega
  rcases hD with rfl|rfl|rfl
  ·have y0:=HK.out.cell 0 _ rfl
   go_wp2_with fail
   refine(checkView_any _ a _ (HA.out.below hbw) HFA.out (HM.out.below hbw)).mono ?_;rw[HYA.out];rintro e w1 ⟨rfl,hb1⟩;have hbw1:=below_trans hbw hb1;have HK1:=Lib.hid (HK.out.below hb1);clear y0;by_cases hy:ya=0
   ·have HY0:=Lib.hid hy
    have hy2:(ya != 0)=false:=by rw[hy];rfl
    clear hy;go_wp2;go_roundw
    case rel=>exact⟨1,by go_num,by omega,Lib.hid (fun _=>HY0.out),Lib.hid (fun h=>by omega),HK1,hbw1⟩
    case measure=>simp[intOf]
   ·have EE:=Lib.hid (HE.out.trans (if_pos hy))
    have hy':=beqF hy;clear hy;go_wp2
    go_ret2
    first
     |exact⟨.slice none 0 0,[],by rw[EE.out];rfl,Chs.nil _,by rw[EE.out];rfl,hbw1⟩
     |exact⟨.slice none 0 0,by rw[EE.out];rfl,[],Chs.nil _,by rw[EE.out];rfl,hbw1⟩
  ·have y0:=HK.out.cell 1 _ rfl
   go_wp2_with fail
   refine(checkView_any _ b _ (HB.out.below hbw) HFB.out (HM.out.below hbw)).mono ?_;rw[HYB.out];rintro e w1 ⟨rfl,hb1⟩;have hbw1:=below_trans hbw hb1;have HK1:=Lib.hid (HK.out.below hb1);clear y0;by_cases hy:yb=0
   ·have HY0:=Lib.hid hy
    have hy2:(yb != 0)=false:=by rw[hy];rfl
    clear hy;go_wp2;go_roundw
    case rel=>exact⟨2,by go_num,by omega,Lib.hid (fun _=>HZ1.out (by omega)),Lib.hid (fun _=>HY0.out),HK1,hbw1⟩
    case measure=>simp[intOf]
   ·have EE:=Lib.hid ((HE.out.trans (if_neg (fun h=>h (HZ1.out (by omega))))).trans (if_pos hy))
    have hy':=beqF hy;clear hy;go_wp2
    go_ret2
    first
     |exact⟨.slice none 0 0,[],by rw[EE.out];rfl,Chs.nil _,by rw[EE.out];rfl,hbw1⟩
     |exact⟨.slice none 0 0,by rw[EE.out];rfl,[],Chs.nil _,by rw[EE.out];rfl,hbw1⟩
  ·have HG1:=Lib.hid (HGA.out (HZ1.out (by omega)))
   have HG2:=Lib.hid (HGB.out (HZ2.out (by omega)));have HE3:=Lib.hid ((HE.out.trans (if_neg (fun h=>h (HZ1.out (by omega))))).trans (if_neg (fun h=>h (HZ2.out (by omega)))));have hla:(av a).length≤4096:=HG1.out.a.few;have hlb:(av b).length≤4096:=HG2.out.a.few;have HR1:=Lib.hid HG1.out.rises;have HR2:=Lib.hid HG2.out.rises;have HN1:=Lib.hid HG1.out.nums;have HN2:=Lib.hid HG2.out.nums;clear HE HGA HGB HZ1 HZ2 HK
   go_wp2_with fail
   refine(of_any _ b _ (HB.out.below hbw) HFB.out HG2.out (HM.out.below hbw)).mono ?_;rintro e w1 ⟨M1,rfl,hM1,hP1,hb1⟩;have HP1:=Lib.hid hP1;have hM1l:=hP1.lt;have hbw1:=below_trans hbw hb1;clear hP1 hb1
   go_wp2_with fail
   refine(of_any _ a _ (HA.out.below hbw1) HFA.out HG1.out (HM.out.below hbw1)).mono ?_;rintro e w3 ⟨M2,rfl,hM2,hP2,hb3⟩;have HP3:=Lib.hid (HP1.out.below hb3);have hbw3:=below_trans hbw1 hb3;have hM2l:=hP2.lt;have hs1:=hb3.size;obtain⟨n2,-,hown2⟩:=hP2;obtain⟨n1,hn1,hown1⟩:=HP3.out;have HO1:=Lib.hid hown1;have HSZ:=Lib.hid (mkD_size (av a));have hwb:=hbw3.size;have hwb1:=hbw.size;clear HP1 HP3 hb3 hown1 hbw1 hbw
   go_wp2_with (first
    |(at_range;refine wpList_range_own _ rfl _ 105 rfl 9 3 lawS Tryz.underlying105 (plainElem (H:=Unit) Tryz.prog 3) M2 n2 (mkD (av a)) rfl hown2 ?_;intro w4 hrg4 hg4 hs4)
    |go_in)
   go_frame
   have hbw4:Below w.heap.size w w4:=hbw3.grown hg4 hbw3.size (fun j hj=>by cases hj);have HO4:=Lib.hid (HO1.out.kept hg4 (by simp));have HPT:=Lib.hid (Part.start HR1.out HR2.out);clear hs4 hg4 hown2 HO1 hbw3
   go_loopw[10,11] (fun _ _ wr=> ∃(left:Lit→Bool) (cnt nn:Nat) (P:AV),wr.ranges Tryz.prog 9 (plainElem (H:=Unit) Tryz.prog 3) M2 w3.heap.size n2 (mkD (av a)) left cnt∧nn+cnt≤10000∧P.length+cnt≤10000∧
    wr.ownsMap Tryz.prog 9 (plainElem (H:=Unit) Tryz.prog 3) M1 nn (mkD P)∧Hid (Part (av a) (av b) P left)∧Below w.heap.size w wr)
    (fun _ _ wr=>wr.rangeLeft M2 w3.heap.size)
   case atStart=>exact⟨_,_,n1,av b,hrg4,by rw[HSZ.out];omega,by rw[HSZ.out];omega,HO4.out,HPT,hbw4⟩
   case round=>
    clear hrg4 HO4 HPT hbw4;obtain⟨left,cnt,nn,P,hrg,hnc,hPc,hown,HPT,hbw⟩:=hrel
    go_wp2_with (first
     |(at_next;refine wpList_next_ranges _ rfl _ rfl 9 lawS (plainElem (H:=Unit) Tryz.prog 3) encStr (Value.int .i64) (fun key kl hk=>by obtain⟨x,hx,_⟩:=Maps.keyOf_str Tryz.underlying9 hk;exact⟨x,hx⟩) (fun v y hv=>by obtain⟨c,rfl,_⟩:=plainElem_int_inv Tryz.underlying3 hv;exact⟨c,rfl⟩) M2 w3.heap.size n2 _ _ _ rfl hrg ?_ ?_)
     |go_in)
    ·intro hc0 hl0
     have HDN:=Lib.hid (HPT.out.done HR1.out HR2.out hl0);have HPL:Hid (Pile wr M1 nn P):=Lib.hid ⟨nn,Nat.le_refl _,hown⟩;have HRP:=Lib.hid HPT.out.rises
     have HNB:Hid (∀p∈P,-1099511627776≤p.2∧p.2≤1099511627776):=Lib.hid (fun p hp=>by
      have h1:=HPT.out.nums HN1.out HN2.out p.1 (HRP.out.good p hp);rw[look_mem HRP.out hp]at h1;omega)
     have HE4:Hid (R=if(toldS P).2=true then((toldS P).1,0)else([],2)):=Lib.hid (by rw[HE3.out,HDN.out]);clear hc0 hl0 hrg hown HPT HE3 HDN
     go_wp2_with fail
     refine(told_any _ HPL.out HRP.out (by omega) HNB.out).mono ?_;rintro e w9 ⟨v9,l9,rfl,hC9,ha9,hb9⟩;have HC9:=Lib.hid hC9;have HA9:=Lib.hid ha9;have hbw9:=below_trans hbw hb9;clear hC9 ha9 HPL HRP HNB;generalize toldS P=TT at HE4 HA9;obtain⟨T1,T2⟩:=TT;cases T2 with
     |true=>
      have EE:=Lib.hid (HE4.out.trans (if_pos rfl));clear HE4;go_wp2
      go_ret2
      first
       |exact⟨v9,l9,by rw[EE.out];rfl,HC9.out,by rw[EE.out];exact HA9.out,hbw9⟩
       |exact⟨v9,by rw[EE.out];rfl,l9,HC9.out,by rw[EE.out];exact HA9.out,hbw9⟩
     |false=>
      have EE:=Lib.hid (HE4.out.trans (if_neg (by simp)));clear HE4;go_wp2
      go_ret2
      first
       |exact⟨.slice none 0 0,[],by rw[EE.out];rfl,Chs.nil _,by rw[EE.out];rfl,hbw9⟩
       |exact⟨.slice none 0 0,by rw[EE.out];rfl,[],Chs.nil _,by rw[EE.out];rfl,hbw9⟩
    ·intro x c kl yd yp w5 cnt2 hkey hlk hv hat hrg5 hlt hg5 hs5 hen
     obtain⟨x',ex,rfl,_⟩:=Maps.keyOf_str Tryz.underlying9 hkey;obtain rfl:x=x':=encStr_inj ex;obtain⟨c',ec,ey,hwc⟩:=plainElem_int_inv Tryz.underlying3 hv;obtain rfl:c=c':=by injection ec
     obtain⟨rfl,-⟩:=Prod.mk.inj ey;obtain⟨p,hp,hsk,hpn⟩:=entry_row hat;obtain rfl:=same_str hsk;obtain rfl:=lit_inj hpn;have HG:=Lib.hid (HR1.out.good p hp);have HKY:=Lib.hid (keyS HG.out);have HPN:=Lib.hid (HPT.out.step HR1.out hp (show left (kOf p.1)=true from hlk));have hnum:=HPT.out.nums HN1.out HN2.out p.1 HG.out;have hpb:=HN1.out p hp;have hown5:=hown.kept hg5 (by intro e;injection e with e;omega);have hb5:Below w.heap.size w w5:=hbw.grown hg5 hbw.size (fun j hj=>by cases hj;omega);have hwr:IntKind.i64.wrap (lookA P p.1-p.2)=lookA P p.1-p.2:=by rw[IntKind.wrap_i64];omega
     obtain⟨hrun5,w6,hupd,hown6,hg6⟩:=bump_next (w':=w5) (v:=lookA P p.1-p.2) hown5 (Below.refl _ _) HKY.out HPT.out.rises HG.out (by unfold maxLen;omega) (wf_of (by omega));have hb6:Below w.heap.size w w6:=hb5.grown hg6 hb5.size (fun j hj=>by cases hj;omega);have hrg6:=hrg5.kept hg6 (by intro e;injection e with e;omega) (by intro e;injection e with e;omega);have HLF:=Lib.hid (hrg.left_eq);have HRG6:=Lib.hid hrg6;have HO6:=Lib.hid hown6;have hl2:=putA_len P p.1 (lookA P p.1-p.2);have hput:(putA P p.1 (lookA P p.1-p.2)).length+cnt2≤10000:=by omega
     rw[show encStr (keyRow p.1)= .string (str (keyRow p.1))from rfl]at hen⊢;generalize str (keyRow p.1)=ky at hrun5 hupd hen;clear hat hkey hlk hv hrg hrg5 hown hown5 hown6 hrg6 hg5 hg6 hs5 ex ec ey hpn hsk hp;go_wp2;go_roundw
     case rel=>exact⟨_,cnt2,nn+1,_,HRG6.out,by omega,hput,HO6.out,HPN.out,hb6⟩
     case measure=>rw[HRG6.out.left_eq,HLF.out];exact hlt
end Go.Proofs.YtjhbeecmdgglgaaGreatDoor
