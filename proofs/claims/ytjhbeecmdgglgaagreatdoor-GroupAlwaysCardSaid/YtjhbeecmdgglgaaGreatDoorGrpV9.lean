/-Piles: view. Views: the walks of Check, and of the reference's CheckView. The moves of a walk through a region that draws its order, in few words. Vie -/
import Derived.Test.YtjhbeecmdgglgaaGreatDoorGrpV7
import Derived.Test.YtjhbeecmdgglgaaGreatDoorGrpV8
import Derived.Test.YtjhbeecmdgglgaaGreatDoorGrpV5
import Derived.Test.YtjhbeecmdgglgaaGreatDoorGrpV1
import Derived.Test.YtjhbeecmdgglgaaGreatDoorGrpV6
import Derived.Laws.CopyOwn
set_option linter.unusedSimpArgs false
set_option linter.unusedVariables false
namespace Go.Proofs.YtjhbeecmdgglgaaGreatDoor
open Go.RowKit Go.Maps Go.Sort
theorem back_good {r:List Val}(h:GoodR r):backR (str (keyRow r)).toList=(r,0):=by rw[str_toList];exact backR_yes (dec_make r 8 h.few h.good)
theorem look_at {A:AV}{k:Nat}{p:List Val×Int}(h:Rises A)(hk:A[k]?=some p):lookA A p.1=p.2:=by
 induction A generalizing k with
 |nil=>simp at hk
 |cons x t ih=>
  obtain⟨x,m⟩:=x;have hx:GoodR x:=h.good (x,m) (by simp);cases k with
  |zero=>
   simp at hk;subst hk;unfold lookA;rw[if_pos (rowsF_self hx)]
  |succ k=>
   have hm:=List.mem_of_getElem? (by simpa using hk);have:=(List.pairwise_cons.1 h.rise).1 p hm;simp only at this;unfold lookA;rw[if_neg (by omega)];exact ih h.tail (by simpa using hk)
theorem own_le {w:World}{a b:Nat}{e:TypeId}{size n:Nat}{v:Value}{xs:List Value}(h:w.ownsRow b e size v n xs)(hab:a≤b):w.ownsRow a e size v n xs:=by
 refine⟨h.1,?_⟩;rcases h.2 with h'|⟨g,cap,cur,h',hb,r⟩
 ·exact .inl h'
 ·exact .inr ⟨g,cap,cur,h',Nat.le_trans hab hb,r⟩
theorem OwnV.le {w:World}{a b:Nat}{v:Value}{l:List Cnt}(h:OwnV w b v l)(hab:a≤b):OwnV w a v l:=⟨own_le h.own hab,h.rows,h.far⟩
set_option maxHeartbeats 4000000 in
set_option maxRecDepth 100000 in
theorem view_any {M N:Nat}{A:AV}(w:World)(hp:Pile w M N A)(hA:Rises A)(hn:A.length≤1000000):
 Calls Tryz.prog 73 #[.map (some M)] w fun e w'=> ∃v l,e= .returned v∧OwnV w' w.heap.size v l∧av l=A∧Below w.heap.size w w':=by
 have HA:=Lib.hid hA;have HP:=Lib.hid hp;clear hA;go_enter Tryz.func73,Tryz.ntmps73
 go_wp2_with fail
 refine(keys_any _ hp HA.out hn).mono ?_;rintro e w1 ⟨vk,rfl,hown,hb1⟩;have HS:=Lib.hid (Sl.of_own hown);rw[show A.length=(A.map fun p=>Value.string (str (keyRow p.1))).length from by rw[List.length_map]]at HS;clear hown hp;generalize hks:(A.map fun p=>Value.string (str (keyRow p.1)))=ks at HS;have HKS:=Lib.hid hks;have hkl:ks.length=A.length:=by rw[←hks,List.length_map]
 obtain⟨Ak,ck,rfl,hc1,hc2,-,hcell⟩:=id HS.out;have HC:=Lib.hid hcell;have HKL:=Lib.hid hkl;unfold maxLen at hc2;rw[hkl]at hc1;clear hks hcell hkl;rw[HKL.out]
 go_wp2_with fail
 go_loopw[3,5,6,7,11] (fun out _ _ _ i wr=> ∃(k:Nat) (u:Value) (s:List Cnt),u=out∧k≤A.length∧i= .int .i64 k∧s.length=k∧Hid (av s=A.take k)∧Hid (OwnV wr w1.heap.size u s)∧Below w1.heap.size w1 wr) (fun _ _ _ _ i _=>A.length-(intOf i).toNat)
 case atStart=>exact⟨0,_,[],rfl,by omega,rfl,rfl,rfl,OwnV.nil w1 w1.heap.size,Below.refl _ _⟩
 case round=>
  obtain⟨k,u,s,rfl,hk,rfl,hsl,HAV,HO,hbw⟩:=hrel;by_cases hlt:k<A.length
  ·have hx:=List.getElem?_eq_getElem (l:=A) hlt
   generalize A[k]=x at hx;have HG:=Lib.hid (HA.out.good x (List.mem_of_getElem? hx));have HLK:=Lib.hid (look_at HA.out hx);have HT:=Lib.hid (show A.take (k+1)=A.take k++[x]from by rw[List.take_add_one,hx];rfl);obtain⟨g,off,rfl,hcc⟩:=HC.out (by intro h0;have:=HKL.out;rw[h0]at this;simp at this;omega);have d1:=cell_below hbw (hcc k (.string (str (keyRow x.1))) (by rw[←HKS.out,List.getElem?_map,hx];rfl));have HKY:=Lib.hid (keyS HG.out);have HBK:=Lib.hid (back_good HG.out);have hsz:(str (keyRow x.1)).size≤4611686018427387904:=by rw[str_size];have:=keyRow_short HG.out;omega
   have HWP:=Lib.hid (HP.out.below (below_trans hb1 hbw));have HGA:=Lib.hid HA.out.good;generalize str (keyRow x.1)=ky at d1 HKY HBK hsz;clear hx hcc;have k0:(0:Int)≤(k:Int):=by omega
   have k1:(k:Int)<(A.length:Int):=by omega
   subst hsl;have hu:Hid (∀j,u.ownBlock=some j→j<wr.heap.size):=Lib.hid (own_lt HO.out.own)
   go_wp2_with fail
   refine(back_any2 _ _ hsz).mono ?_;rw[HBK.out];rintro e w2 ⟨vb,rfl,hs2,hf2,hb2⟩;have HS2:=Lib.hid hs2;have HF2:=Lib.hid hf2;obtain⟨A2,c2,rfl,-⟩:=id hs2;have hbw2:=below_trans hbw hb2;obtain⟨n2,-,hmap⟩:=HWP.out.below hb2;clear hs2 hf2
   go_wp2_with (first
    |(at_lookup;refine wpList_lookup_own_int _ rfl _ _ 105 rfl 9 3 .i64 lawS Tryz.underlying105 Tryz.underlying3 (zeroS _) M n2 _ rfl hmap _ _ rfl HKY.out ?_;intro c hat hwc;obtain rfl:=lit_inj (hat.symm.trans (mkD_at HGA.out HG.out));rw[HLK.out];clear hat hwc)
    |(at_builtin;refine wpList_app rfl (.tmp 20) (.tmp 26) 27 rfl w1.heap.size 45 2 32 Tryz.underlying27 cntI u s.length _ rfl ((HO.out.below hb2).alloc _).own _ 1 (Cnt.cells ⟨.slice A2 x.1.length c2,x.1,x.2⟩) rfl (one_cnt w2 ⟨.slice A2 x.1.length c2,x.1,x.2⟩) rfl (cnt_one HS2.out) (by unfold maxLen;omega) (by omega) (by have:=hbw2.size;simp;omega) ?_;intro v4 w4 hown4 hg4 hat4))
   have HN:Hid (OwnV w4 w1.heap.size v4 (s++[⟨.slice A2 x.1.length c2,x.1,x.2⟩])):=Lib.hid (((HO.out.below hb2).alloc _).snoc hown4 hg4 hat4 (HS2.out.below (below_alloc _ _)) (fun j hj=>⟨Nat.lt_of_lt_of_le (HF2.out j hj).2 (by simp),fun e=>Nat.lt_irrefl _ (Nat.lt_of_lt_of_le (hu.out j e) (HF2.out j hj).1)⟩));have HAN:Hid (av (s++[⟨.slice A2 x.1.length c2,x.1,x.2⟩])=A.take (s.length+1)):=Lib.hid (by rw[HT.out,←HAV.out];simp[av]);have hbw4:Below w1.heap.size w1 w4:=below_grown (hbw2.alloc hbw2.size _) hg4 (own_ge HO.out.own);clear hown4 hg4 hat4 hmap;go_wp2;go_roundw
   case rel=>exact⟨s.length+1,_,_,rfl,by omega,by go_num,by simp,HAN.out,HN.out,hbw4⟩
   case measure=>simp[intOf];omega
  ·obtain rfl:k=A.length:=by omega
   go_wp2;go_ret;refine⟨_,s,rfl,HO.out.le hb1.size,?_,below_trans hb1 hbw⟩;rw[HAV.out,List.take_of_length_le (Nat.le_refl _)]
end Go.Proofs.YtjhbeecmdgglgaaGreatDoor
namespace Go.Proofs.YtjhbeecmdgglgaaGreatDoor
open Go.RowKit
set_option maxHeartbeats 8000000 in
set_option maxRecDepth 10000 in
theorem checkView_any (v:Value)(l:List Cnt)(w:World)(h:View w v l)(hf:FineV l)(hm:Mx w):
 Calls Tryz.prog 53 #[v] w fun e w'=>e= .returned (.int .i64 (chkV l))∧Below w.heap.size w w':=by
 have HV:=Lib.hid h;have HF:=Lib.hid hf;have HM:=Lib.hid hm;obtain⟨A,c,rfl,h1,h2,-⟩:=h.sl;clear h hf hm;unfold maxLen at h2;by_cases hn:4096<l.length
 ·have e1:=Lib.hid (show chkV l=2 from if_pos hn)
  go_enter Tryz.func53,Tryz.ntmps53
  go_wp2;go_ret;exact⟨ret_int (by rw[e1.out]),Below.refl _ _⟩
 ·have HBAD:=Lib.hid (fun k=>chk_bad (l:=l) (k:=k) hn)
  have HGOOD:=Lib.hid (chk_good (l:=l) hn);generalize chkV l=R at HBAD HGOOD⊢;go_enter Tryz.func53,Tryz.ntmps53
  go_wp2_with fail
  go_loopw[3,4,5,6,7,13] (fun last _ _ _ _ i wr=> ∃k:Nat,k≤l.length∧i= .int .i64 k∧last= .string (lastKey l k)∧Hid (∀j∈(List.range l.length).take k,okAt l j=true)∧Below w.heap.size w wr) (fun _ _ _ _ _ i _=>l.length-(intOf i).toNat)
  case atStart=>exact⟨0,by omega,rfl,rfl,by simp[Hid],Below.refl _ _⟩
  case round=>
   obtain⟨k,hk,rfl,rfl,H,hbw⟩:=hrel;by_cases hlt:k<l.length
   ·have hx:=List.getElem?_eq_getElem (l:=l) hlt
    generalize l[k]=x at hx;obtain⟨g,off,rfl,-,hc⟩:=cnt_at HV.out.sl rfl hx;obtain⟨d1,d2⟩:=hc _ hbw;have hmem:=List.mem_of_getElem? hx;have HRW:=Lib.hid (HV.out.rows x hmem);have HFX:=Lib.hid (HF.out.rows x hmem);have hxn:=HF.out.nums x hmem;have HX:=Lib.hid hx;clear hx hc hmem;obtain⟨xv,xr,xn⟩:=x;simp only at d1 d2 HRW HFX hxn;obtain⟨Ax,cx,rfl,-⟩:=id HRW.out;have hbw2:=hbw.alloc hbw.size (.cells #[.slice Ax xr.length cx,.int .i64 xn] 45);have HSX:=Lib.hid (HRW.out.below hbw2);have kb:=(Blk.new wr 45 #[.slice Ax xr.length cx,.int .i64 xn]);generalize hla:lastKey l k=la;have HLA:=Lib.hid hla;clear hla;by_cases hq:keyErr xr=0
    ·have HKE:Hid (keyR xr=(str (keyRow xr),0)):=Lib.hid (if_neg (by rw[hq];simp))
     have HGX:=Lib.hid (goodR_of HFX.out hq);have hokc:okC ⟨.slice Ax xr.length cx,xr,xn⟩=btw xn 1 1073741824:=by simp[okC,hq]
     have hD:xn<1∨(1≤xn∧1073741824<xn)∨(1≤xn∧xn≤1073741824):=by omega
     have HNL:Hid (lastKey l (k+1)=str (keyRow xr)):=Lib.hid (by simp[lastKey,HX.out]);rcases hD with hn1|⟨hn1,hn2⟩|⟨hn1,hn2⟩
     ·have HB0:=Lib.hid (btw_no (n:=xn) (lo:=1) (hi:=1073741824) (by omega))
      have EE:=Lib.hid (HBAD.out k hlt (by cases k with|zero=>rw[okAt_zero HX.out,hokc,HB0.out]|succ k=>rw[okAt_succ HX.out (List.getElem?_eq_getElem (show k<l.length by omega)),hokc,HB0.out];rfl));clear HGX hokc HNL HB0
      go_wp2_with fail
      refine(key_any _ xr _ HSX.out HFX.out (HM.out.below hbw2)).mono ?_;rw[HKE.out];rintro e w2 ⟨rfl,hb2⟩;have y1:=(kb.below hb2).cell 1 _ rfl;have hbw3:=below_trans hbw2 hb2;go_wp2;go_ret;exact⟨ret_int (by rw[EE.out]),hbw3⟩
     ·have HB0:=Lib.hid (btw_no (n:=xn) (lo:=1) (hi:=1073741824) (by omega))
      have EE:=Lib.hid (HBAD.out k hlt (by cases k with|zero=>rw[okAt_zero HX.out,hokc,HB0.out]|succ k=>rw[okAt_succ HX.out (List.getElem?_eq_getElem (show k<l.length by omega)),hokc,HB0.out];rfl));clear HGX hokc HNL HB0
      go_wp2_with fail
      refine(key_any _ xr _ HSX.out HFX.out (HM.out.below hbw2)).mono ?_;rw[HKE.out];rintro e w2 ⟨rfl,hb2⟩;have y1:=(kb.below hb2).cell 1 _ rfl;have hbw3:=below_trans hbw2 hb2;go_wp2;go_ret;exact⟨ret_int (by rw[EE.out]),hbw3⟩
     ·have HB0:=Lib.hid (btw_yes hn1 hn2)
      rcases Nat.eq_zero_or_pos k with hk0|hpos
      ·have hno: ¬(0:Int)<(k:Int):=by omega
       have hox:okAt l k=okC ⟨.slice Ax xr.length cx,xr,xn⟩:=by have:=HX.out;rw[hk0]at this⊢;exact okAt_zero this
       have HZ:Hid (∀j∈(List.range l.length).take (k+1),okAt l j=true):=Lib.hid (all_step (f:=okAt l) H.out (range_at hlt) (by rw[hox,hokc,HB0.out]));clear hox hk0;clear HGX hokc HB0
       go_wp2_with fail
       refine(key_any _ xr _ HSX.out HFX.out (HM.out.below hbw2)).mono ?_;rw[HKE.out];rintro e w2 ⟨rfl,hb2⟩;have y1:=(kb.below hb2).cell 1 _ rfl;have hbw3:=below_trans hbw2 hb2;go_wp2;go_roundw
       case rel=>exact⟨k+1,by omega,by go_num,by rw[HNL.out],HZ.out,hbw3⟩
       case measure=>simp[intOf];omega
      ·obtain⟨k,rfl⟩: ∃m,k=m+1:=⟨k-1,by omega⟩
       have hkl:k<l.length:=by omega
       have hd:=List.getElem?_eq_getElem hkl;generalize l[k]=d at hd
       have HGD:Hid (GoodR d.r):=by
        have:=H.out k (by rw[List.mem_take_iff_getElem];exact⟨k,by simp;omega,by simp⟩)
        have hck:okC d=true:=by
         cases k with
         |zero=>rw[okAt_zero hd]at this;exact this
         |succ k=>rw[okAt_succ hd (List.getElem?_eq_getElem (show k<l.length by omega)),Bool.and_eq_true]at this;exact this.1
        unfold okC at hck;rw[Bool.and_eq_true,beq_iff_eq]at hck;exact Lib.hid (goodR_of (HF.out.rows d (List.mem_of_getElem? hd)) hck.1)
       have HLK:Hid (la=str (keyRow d.r)):=Lib.hid (by rw[←HLA.out];simp[lastKey,hd]);have l1:Op.bytesLess (str (keyRow xr)).toList la.toList=decide (rowsF xr d.r<0):=by rw[HLK.out];exact str_less HGX.out HGD.out
       have l2:((str (keyRow xr)).toList==la.toList)=decide (rowsF xr d.r=0):=by rw[HLK.out];exact str_same HGX.out HGD.out
       have hpos':(0:Int)<((k+1:Nat):Int):=by omega
       have HFL:=Lib.hid (rowsF_flip HGX.out HGD.out);have HOK:=Lib.hid (okAt_succ HX.out hd);clear hd;have hD:rowsF xr d.r<0∨rowsF xr d.r=0∨0<rowsF xr d.r:=by omega
       rcases hD with hs|hs|hs
       ·rw[decide_eq_true hs]at l1
        rw[decide_eq_false (by omega)]at l2;have EE:=Lib.hid (HBAD.out (k+1) hlt (by rw[HOK.out,HFL.out,decide_eq_false (by omega),Bool.and_false]));generalize str (keyRow xr)=sx at HKE l1 l2;clear HGX hokc HNL HB0 hs HLK HFL HOK
        go_wp2_with fail
        refine(key_any _ xr _ HSX.out HFX.out (HM.out.below hbw2)).mono ?_;rw[HKE.out];rintro e w2 ⟨rfl,hb2⟩;have y1:=(kb.below hb2).cell 1 _ rfl;have hbw3:=below_trans hbw2 hb2;go_wp2;go_ret;exact⟨ret_int (by rw[EE.out]),hbw3⟩
       ·rw[decide_eq_false (by omega)]at l1
        rw[decide_eq_true hs]at l2;have EE:=Lib.hid (HBAD.out (k+1) hlt (by rw[HOK.out,HFL.out,decide_eq_false (by omega),Bool.and_false]));generalize str (keyRow xr)=sx at HKE l1 l2;clear HGX hokc HNL HB0 hs HLK HFL HOK
        go_wp2_with fail
        refine(key_any _ xr _ HSX.out HFX.out (HM.out.below hbw2)).mono ?_;rw[HKE.out];rintro e w2 ⟨rfl,hb2⟩;have y1:=(kb.below hb2).cell 1 _ rfl;have hbw3:=below_trans hbw2 hb2;go_wp2;go_ret;exact⟨ret_int (by rw[EE.out]),hbw3⟩
       ·rw[decide_eq_false (by omega)]at l1
        rw[decide_eq_false (by omega)]at l2;have HZ:Hid (∀j∈(List.range l.length).take (k+1+1),okAt l j=true):=Lib.hid (all_step (f:=okAt l) H.out (range_at hlt) (by rw[HOK.out,hokc,HB0.out,HFL.out,decide_eq_true (by omega)];rfl));generalize str (keyRow xr)=sx at HKE l1 l2 HNL;clear HGX hokc HB0 hs HLK HFL HOK
        go_wp2_with fail
        refine(key_any _ xr _ HSX.out HFX.out (HM.out.below hbw2)).mono ?_;rw[HKE.out];rintro e w2 ⟨rfl,hb2⟩;have y1:=(kb.below hb2).cell 1 _ rfl;have hbw3:=below_trans hbw2 hb2;go_wp2;go_roundw
        case rel=>exact⟨k+1+1,by omega,by go_num,by rw[HNL.out],HZ.out,hbw3⟩
        case measure=>simp[intOf];omega
    ·have HKE:Hid (keyR xr=(⟨#[]⟩,keyErr xr)):=Lib.hid (if_pos hq)
     have hb':=bneT hq
     have EE:=Lib.hid (HBAD.out k hlt (by
      have hc0:okC ⟨.slice Ax xr.length cx,xr,xn⟩=false:=by simp[okC,hq]
      cases k with
      |zero=>rw[okAt_zero HX.out,hc0]
      |succ k=>rw[okAt_succ HX.out (List.getElem?_eq_getElem (show k<l.length by omega)),hc0];rfl))
     clear hq
     go_wp2_with fail
     refine(key_any _ xr _ HSX.out HFX.out (HM.out.below hbw2)).mono ?_;rw[HKE.out];rintro e w2 ⟨rfl,hb2⟩;have y1:=(kb.below hb2).cell 1 _ rfl;have hbw3:=below_trans hbw2 hb2;go_wp2;go_ret;exact⟨ret_int (by rw[EE.out]),hbw3⟩
   ·obtain rfl:k=l.length:=by omega
    have EE:=Lib.hid (HGOOD.out H.out);generalize lastKey l l.length=la;go_wp2;go_ret;exact⟨ret_int (by rw[EE.out]),hbw⟩
end Go.Proofs.YtjhbeecmdgglgaaGreatDoor
namespace Go.Proofs.YtjhbeecmdgglgaaGreatDoor
open Go.RowKit
section
variable {P:Program} {ops:Array Oper} {Q:Exit→Act→World→Prop} {md:Region.Mode} {S:World→Prop}
theorem tk (i:Nat){oi:Oper}{v:Value}{fuel:Nat}{listed listed':Array Bool}{a a':Act}{w:World}
 (h:wpAnyH P md ops Q S fuel listed' a' w)
 (hi:ops[i]?=some oi:=by simp only[List.getElem?_toArray,List.getElem?_cons_succ,List.getElem?_cons_zero];rfl)
 (hs:Region.noSelect ops=true:=by kernel_rfl) (hf:Region.free md ops listed i=true:=by kernel_rfl) (hr:(Region.ready md ops listed).contains i=true:=by kernel_rfl)
 (hQ: ∀c a w,Q (.panic c) (a.put oi.dst v) w→Q (.panic c) a w:=by intro _ _ _ h;exact h)
 (hw:Region.wanted oi (yielded ops a.tmps)=true:=by kernel_rfl)
 (hy: ∀w,S w→(execOp a.eval oi).run P w= .ok (.value v) w:=by(intro w hSw;(try dsimp only at hSw);go_simp;try with_reducible rfl))
 (hS:S w:=by assumption)
 (hl:listed.setIfInBounds i true=listed':=by(try simp only[List.setIfInBounds_toArray,List.set_cons_zero,List.set_cons_succ]);exact rfl)
 (ha:a.put oi.dst v=a':=by(try simp only[Act.put,List.setIfInBounds_toArray,List.set_cons_zero,List.set_cons_succ]);exact rfl):wpAnyH P md ops Q S (fuel+1) listed a w:=
 wpAnyH_take hi hs hf hr hQ (.inl ⟨hw,hy⟩) hS (hl▸ha▸h)
theorem tn (i:Nat){oi:Oper}{fuel:Nat}{listed listed':Array Bool}{a a':Act}{w:World}
 (h:wpAnyH P md ops Q S fuel listed' a' w)
 (hi:ops[i]?=some oi:=by simp only[List.getElem?_toArray,List.getElem?_cons_succ,List.getElem?_cons_zero];rfl)
 (hs:Region.noSelect ops=true:=by kernel_rfl) (hf:Region.free md ops listed i=true:=by kernel_rfl) (hr:(Region.ready md ops listed).contains i=true:=by kernel_rfl)
 (hQ: ∀c a w,Q (.panic c) (a.put oi.dst undef) w→Q (.panic c) a w:=by intro _ _ _ h;exact h)
 (hw:Region.wanted oi (yielded ops a.tmps)=false:=by kernel_rfl)
 (hS:S w:=by assumption)
 (hl:listed.setIfInBounds i true=listed':=by(try simp only[List.setIfInBounds_toArray,List.set_cons_zero,List.set_cons_succ]);exact rfl)
 (ha:a.put oi.dst undef=a':=by(try simp only[Act.put,List.setIfInBounds_toArray,List.set_cons_zero,List.set_cons_succ]);exact rfl):wpAnyH P md ops Q S (fuel+1) listed a w:=
 wpAnyH_take hi hs hf hr hQ (.inr ⟨hw,rfl⟩) hS (hl▸ha▸h)
theorem tc (i:Nat){oi:Oper}{fuel:Nat}{listed listed':Array Bool}{a:Act}{w:World}
 (h: ∀K,Hid (∀a' w',S w'→(S w'→wpAnyH P md ops Q S fuel listed' a' w')→K a' w')→(if Region.wanted oi (yielded ops a.tmps)=true then oi.wp P a w K Q else K (a.put oi.dst undef) w))
 (hi:ops[i]?=some oi:=by simp only[List.getElem?_toArray,List.getElem?_cons_succ,List.getElem?_cons_zero];rfl)
 (hr:Region.ready md ops listed=[i]:=by kernel_rfl)
 (hl:listed.setIfInBounds i true=listed':=by(try simp only[List.setIfInBounds_toArray,List.set_cons_zero,List.set_cons_succ]);exact rfl):wpAnyH P md ops Q S (fuel+1) listed a w:=by
 refine wpAnyH_ready (rs:=[i]) hr (by simp) (AllReadyH.cons hi (fun K hK=> ?_) AllReadyH.nil);exact h K (Lib.hid fun a' w' h1 h2=>hK.out _ _ h1 (fun h3=>hl▸h2 h3))
theorem tc2 (i j:Nat){oi oj:Oper}{fuel:Nat}{listed l1 l2:Array Bool}{a:Act}{w:World}
 (h1: ∀K,Hid (∀a' w',S w'→(S w'→wpAnyH P md ops Q S fuel l1 a' w')→K a' w')→(if Region.wanted oi (yielded ops a.tmps)=true then oi.wp P a w K Q else K (a.put oi.dst undef) w))
 (h2: ∀K,Hid (∀a' w',S w'→(S w'→wpAnyH P md ops Q S fuel l2 a' w')→K a' w')→(if Region.wanted oj (yielded ops a.tmps)=true then oj.wp P a w K Q else K (a.put oj.dst undef) w))
 (hi:ops[i]?=some oi:=by simp only[List.getElem?_toArray,List.getElem?_cons_succ,List.getElem?_cons_zero];rfl)
 (hj:ops[j]?=some oj:=by simp only[List.getElem?_toArray,List.getElem?_cons_succ,List.getElem?_cons_zero];rfl)
 (hr:Region.ready md ops listed=[i,j]:=by kernel_rfl)
 (e1:listed.setIfInBounds i true=l1:=by(try simp only[List.setIfInBounds_toArray,List.set_cons_zero,List.set_cons_succ]);exact rfl)
 (e2:listed.setIfInBounds j true=l2:=by(try simp only[List.setIfInBounds_toArray,List.set_cons_zero,List.set_cons_succ]);exact rfl):wpAnyH P md ops Q S (fuel+1) listed a w:=by
 refine wpAnyH_ready (rs:=[i,j]) hr (by simp) (AllReadyH.cons hi (fun K hK=> ?_) (AllReadyH.cons hj (fun K hK=> ?_) AllReadyH.nil))
 ·exact h1 K (Lib.hid fun a' w' h1 h2=>hK.out _ _ h1 (fun h3=>e1▸h2 h3))
 ·exact h2 K (Lib.hid fun a' w' h1 h2=>hK.out _ _ h1 (fun h3=>e2▸h2 h3))
theorem td {fuel:Nat}{listed:Array Bool}{a:Act}{w:World}(h:Q .normal a w)(hr:Region.ready md ops listed=[]:=by kernel_rfl):wpAnyH P md ops Q S fuel listed a w:=wpAnyH_done hr h _
end
theorem tr {P:Program}{ops:Array Oper}{Q:Exit→Act→World→Prop}(S:World→Prop){id:Nat}{a:Act}{w:World}(hS:S w.drew)(h:S w.drew→wpAnyH P .any ops Q S ops.size (Array.replicate ops.size false) a w.drew)(hm:P.follows .mixedOrders=true:=by kernel_rfl):(Code.region id ops true).wp P Q a w:=
 wp_region_held_drew hm hS h
end Go.Proofs.YtjhbeecmdgglgaaGreatDoor
namespace Go.Proofs.YtjhbeecmdgglgaaGreatDoor
open Go.RowKit
end Go.Proofs.YtjhbeecmdgglgaaGreatDoor
namespace Go.Proofs.YtjhbeecmdgglgaaGreatDoor
open Go.RowKit
structure PlaceOf (A:AV) (r:List Val) (i:Nat) (is:Bool):Prop where
 le:i≤A.length
 less: ∀j p,j<i→A[j]?=some p→rowsF p.1 r<0
 here:is=true→ ∃p,A[i]?=some p∧rowsF p.1 r=0
 more:is=false→ ∀j p,i≤j→A[j]?=some p→0<rowsF p.1 r
theorem look_more {A:AV}{r:List Val}(h: ∀p∈A,0<rowsF p.1 r):lookA A r=0∧hasA A r=false∧delA A r=A:=by
 induction A with
 |nil=>exact⟨rfl,rfl,rfl⟩
 |cons x t ih=>
  obtain⟨x,m⟩:=x;have h0:0<rowsF x r:=h (x,m) (by simp);obtain⟨a,b,c⟩:=ih fun p hp=>h p (by simp[hp])
  refine⟨?_,?_,?_⟩
  ·rw[lookA,if_neg (by omega),a]
  ·rw[hasA,b,decide_eq_false (by omega)];rfl
  ·rw[delA,if_neg (by omega),c]
end Go.Proofs.YtjhbeecmdgglgaaGreatDoor
namespace Go.Proofs.YtjhbeecmdgglgaaGreatDoor
open Go.RowKit
theorem cnt_set (l:List Cnt)(i:Nat)(c:Cnt)(n:Int)(hi:l[i]?=some c):(cntCells l).set (i*2+1) (.int .i64 n)=cntCells (l.set i ⟨c.v,c.r,n⟩):=by
 induction l generalizing i with
 |nil=>simp at hi
 |cons a l ih=>
  cases i with
  |zero=>
   simp at hi;subst hi;simp[cntCells,Cnt.cells]
  |succ i=>
   have:=ih i (by simpa using hi);have e:(i+1)*2+1=i*2+1+1+1:=by omega
   rw[e,List.set_cons_succ];unfold cntCells at this⊢;rw[List.flatMap_cons,List.flatMap_cons,←this];simp[Cnt.cells]
theorem OwnV.set {w:World}{base g cap i:Nat}{l:List Cnt}{c:Cnt}{n:Int}(h:OwnV w base (.slice (some ⟨g,0,none⟩) l.length cap) l)(hi:l[i]?=some c):
 OwnV (w.setCell ⟨g,i*2+1,none⟩ (.int .i64 n)) base (.slice (some ⟨g,0,none⟩) l.length cap) (l.set i ⟨c.v,c.r,n⟩)∧w.grownBy (w.setCell ⟨g,i*2+1,none⟩ (.int .i64 n)) (some g):=by
 obtain⟨h1,h2⟩:=h.own.stored (i*2+1) (.int .i64 n);rw[cnt_set l i c n hi]at h1
 have hsub: ∀d∈l.set i ⟨c.v,c.r,n⟩,∃d'∈l,d'.v=d.v∧d'.r=d.r:=by
  intro d hd;rcases List.mem_or_eq_of_mem_set hd with hd|rfl
  ·exact⟨d,hd,rfl,rfl⟩
  ·exact⟨c,List.mem_of_getElem? hi,rfl,rfl⟩
 refine⟨⟨by rw[List.length_set];exact h1,fun d hd=> ?_,fun d hd k hk=> ?_⟩,h2⟩
 ·obtain⟨d',hd',e1,e2⟩:=hsub d hd
  rw[←e1,←e2];exact sl_grown (h.rows d' hd') h2 (fun k hk=>(h.far d' hd' k hk).2)
 ·obtain⟨d',hd',e1,-⟩:=hsub d hd
  rw[←e1]at hk;obtain⟨a,b⟩:=h.far d' hd' k hk;exact⟨Nat.lt_of_lt_of_le a h2.size,b⟩
end Go.Proofs.YtjhbeecmdgglgaaGreatDoor
namespace Go.Proofs.YtjhbeecmdgglgaaGreatDoor
open Go.RowKit
theorem cnt_lay (a b:List Cnt)(x c:Cnt):((cntCells (a++x::b)).set (a.length*2) c.v).set (a.length*2+1) (.int .i64 c.n)=cntCells (a++c::b):=by
 induction a with
 |nil=>simp[cntCells,Cnt.cells]
 |cons y a ih=>
  have e1:(y::a).length*2=a.length*2+1+1:=by simp;omega
  rw[e1];unfold cntCells at ih⊢;simp only[List.cons_append,List.flatMap_cons];rw[←ih];simp[Cnt.cells]
theorem OwnV.lay {w:World}{base g n cap:Nat}{a b:List Cnt}{x c:Cnt}(h:OwnV w base (.slice (some ⟨g,0,none⟩) n cap) (a++x::b))(hn:n=(a++x::b).length)(hc:Sl w c.v c.r.length (rowCells c.r))(hf: ∀k,c.v.ownBlock=some k→k<w.heap.size∧k≠g):
 OwnV ((w.setCell ⟨g,a.length*2,none⟩ c.v).setCell ⟨g,a.length*2+1,none⟩ (.int .i64 c.n)) base (.slice (some ⟨g,0,none⟩) n cap) (a++c::b)∧w.grownBy ((w.setCell ⟨g,a.length*2,none⟩ c.v).setCell ⟨g,a.length*2+1,none⟩ (.int .i64 c.n)) (some g):=by
 have ho:=h.own;rw[←hn]at ho;obtain⟨h1,g1⟩:=ho.stored (a.length*2) c.v;obtain⟨h2,g2⟩:=h1.stored (a.length*2+1) (.int .i64 c.n);have hg:=grown_trans g1 g2;rw[cnt_lay]at h2;have hlen:(a++c::b).length=n:=by rw[hn];simp
 have hd: ∀d∈a++c::b,Sl w d.v d.r.length (rowCells d.r)∧ ∀k,d.v.ownBlock=some k→k<w.heap.size∧k≠g:=by
  intro d hd;rcases List.mem_append.1 hd with hd|hd
  ·exact⟨h.rows d (by simp[hd]),fun k hk=>by obtain⟨p,q⟩:=h.far d (by simp[hd]) k hk;exact⟨p,fun e=>q (by rw[e];rfl)⟩⟩
  ·rcases List.mem_cons.1 hd with rfl|hd
   ·exact⟨hc,hf⟩
   ·exact⟨h.rows d (by simp[hd]),fun k hk=>by obtain⟨p,q⟩:=h.far d (by simp[hd]) k hk;exact⟨p,fun e=>q (by rw[e];rfl)⟩⟩
 refine⟨⟨by rw[hlen];exact h2,fun d hd'=>sl_grown (hd d hd').1 hg (fun k hk e=>((hd d hd').2 k hk).2 (by injection e with e;exact e.symm)),fun d hd' k hk=> ?_⟩,hg⟩;obtain⟨p,q⟩:=(hd d hd').2 k hk;exact⟨Nat.lt_of_lt_of_le p hg.size,fun e=>q (by simp[Value.ownBlock]at e;exact e.symm)⟩
end Go.Proofs.YtjhbeecmdgglgaaGreatDoor
namespace Go.Proofs.YtjhbeecmdgglgaaGreatDoor
open Go.RowKit
end Go.Proofs.YtjhbeecmdgglgaaGreatDoor
namespace Go.Proofs.YtjhbeecmdgglgaaGreatDoor
open Go.RowKit Go.Maps
theorem addR_rises {A:AV}{r:List Val}{n:Int}(h:Rises A)(hr:GoodR r):Rises (addR A r n).1:=by
 unfold addR;split
 ·exact h
 ·split
  ·exact h
  ·split
   ·exact rises_del h
   ·exact rises_put h hr
theorem putA_len (A:AV)(r:List Val)(n:Int):(putA A r n).length≤A.length+1:=by
 induction A with
 |nil=>simp[putA]
 |cons x t ih=>
  obtain⟨x,m⟩:=x;unfold putA;split
  ·simp
  ·split
   ·simp;omega
   ·simp
theorem delA_len (A:AV)(r:List Val):(delA A r).length≤A.length:=by
 induction A with
 |nil=>simp[delA]
 |cons x t ih=>
  obtain⟨x,m⟩:=x;unfold delA;split
  ·simp
  ·simp;omega
theorem look_num {A:AV}(r:List Val)(h: ∀p∈A,1≤p.2∧p.2≤1073741824):0≤lookA A r∧lookA A r≤1073741824:=by
 induction A with
 |nil=>simp[lookA]
 |cons x t ih=>
  obtain⟨x,m⟩:=x;have:=h (x,m) (by simp);have i:=ih fun p hp=>h p (by simp[hp]);simp only at this;unfold lookA;split
  ·omega
  ·exact i
theorem View.nil (w:World):View w (.slice none 0 0) []:=⟨Sl.nil_ w,nofun⟩
end Go.Proofs.YtjhbeecmdgglgaaGreatDoor
namespace Go.Proofs.YtjhbeecmdgglgaaGreatDoor
open Go.RowKit Go.Maps
end Go.Proofs.YtjhbeecmdgglgaaGreatDoor
namespace Go.Proofs.YtjhbeecmdgglgaaGreatDoor
open Go.RowKit Go.Maps
def foldR:AV→Int→List (Int×List Val)→AV×Int×Int
 |A,_,[]=>(A,0,0)
 |A,i,c::t=>if(addR A c.2 (stepI c.1)).2=0 then foldR (addR A c.2 (stepI c.1)).1 (i+1) t else([],i,(addR A c.2 (stepI c.1)).2)
def foldS (l:List Cnt) (m:List Chn):AV×Int×Int:=
 if chkV l≠0 then([],0,chkV l)else if formC m≠0 then([],0,formC m)else foldR (av l) 0 (ac m)
theorem addR_ok {A:AV}{r:List Val}{n:Int}(h:(addR A r n).2=0):
 0≤lookA A r+n∧lookA A r+n≤1073741824∧ ¬(hasA A r=false∧0<lookA A r+n∧A.length=4096)∧
 (addR A r n).1=if lookA A r+n=0 then delA A r else putA A r (lookA A r+n):=by
 unfold addR at h⊢;by_cases h1:lookA A r+n<0
 ·rw[if_pos h1]at h;simp at h
 ·rw[if_neg h1]at h⊢
  by_cases h2:1073741824<lookA A r+n∨(hasA A r=false∧0<lookA A r+n∧A.length=4096)
  ·rw[if_pos h2]at h;simp at h
  ·rw[if_neg h2]
   refine⟨by omega,Int.not_lt.1 (fun h=>h2 (.inl h)),fun h=>h2 (.inr h),?_⟩;split<;>rfl
theorem put_mem2 {A:AV}{r:List Val}{n:Int}{p:List Val×Int}(h:p∈putA A r n):p∈A∨p.2=n:=by
 induction A with
 |nil=>simp[putA]at h;exact .inr (by rw[h])
 |cons x t ih=>
  obtain⟨x,m⟩:=x;unfold putA at h;split at h
  ·rcases List.mem_cons.1 h with rfl|h
   ·exact .inr rfl
   ·exact .inl (by simp[h])
  ·split at h
   ·rcases List.mem_cons.1 h with rfl|h
    ·exact .inl (by simp)
    ·rcases ih h with h|h
     ·exact .inl (by simp[h])
     ·exact .inr h
   ·rcases List.mem_cons.1 h with rfl|h
    ·exact .inr rfl
    ·exact .inl h
theorem addR_nums {A:AV}{r:List Val}{n:Int}(h: ∀p∈A,1≤p.2∧p.2≤1073741824)(h0:(addR A r n).2=0): ∀p∈(addR A r n).1,1≤p.2∧p.2≤1073741824:=by
 obtain⟨h1,h2,-,e⟩:=addR_ok h0;rw[e];intro p hp;split at hp
 ·exact h p (del_mem hp)
 ·rcases put_mem2 hp with hp|hp
  ·exact h p hp
  ·omega
theorem put_has_len {A:AV}{r:List Val}{n:Int}(h:Rises A)(hr:GoodR r)(hh:hasA A r=true):(putA A r n).length=A.length:=by
 induction A with
 |nil=>simp[hasA]at hh
 |cons x t ih=>
  obtain⟨x,m⟩:=x;have hx:GoodR x:=h.good (x,m) (by simp);unfold putA;by_cases e:rowsF x r=0
  ·rw[if_pos e];simp
  ·rw[if_neg e]
   unfold hasA at hh;have hh':hasA t r=true:=by simpa[e]using hh
   by_cases l:rowsF x r<0
   ·rw[if_pos l];simp[ih h.tail hh']
   ·exfalso
    have hlt:rowsF r x<0:=by rw[rowsF_flip hx hr];omega
    have:hasA t r=false:=by
     have hno: ∀p∈t,rowsF p.1 r≠0:=fun p hp=>by
      have:=rowsF_trans hr hx (h.good p (by simp[hp])) hlt ((List.pairwise_cons.1 h.rise).1 p hp);have hf:=rowsF_flip (h.good p (by simp[hp])) hr;omega
     clear hh' hh ih h
     induction t with
     |nil=>rfl
     |cons y t ih=>
      obtain⟨y,c⟩:=y;unfold hasA;have:=hno (y,c) (by simp);simp only at this;simp[this,ih fun p hp=>hno p (by simp[hp])]
    rw[this]at hh';cases hh'
theorem addR_few {A:AV}{r:List Val}{n:Int}(h:Rises A)(hr:GoodR r)(hl:A.length≤4096)(h0:(addR A r n).2=0):(addR A r n).1.length≤4096:=by
 obtain⟨h1,h2,h3,e⟩:=addR_ok h0;rw[e];split
 ·have:=delA_len A r;omega
 ·cases hh:hasA A r with
  |true=>rw[put_has_len h hr hh];exact hl
  |false=>
   have:=putA_len A r (lookA A r+n);by_cases h4:A.length=4096
   ·exact absurd ⟨hh,by omega,h4⟩ h3
   ·omega
structure GoodA (A:AV):Prop where
 few:A.length≤4096
 rises:Rises A
 nums: ∀p∈A,1≤p.2∧p.2≤1073741824
theorem GoodV.a {l:List Cnt}(h:GoodV l):GoodA (av l):=⟨by unfold av;rw[List.length_map];exact h.few,h.rises,h.nums⟩
theorem GoodA.add {A:AV}{r:List Val}{n:Int}(h:GoodA A)(hr:GoodR r)(h0:(addR A r n).2=0):GoodA (addR A r n).1:=
 ⟨addR_few h.rises hr h.few h0,addR_rises h.rises hr,addR_nums h.nums h0⟩
end Go.Proofs.YtjhbeecmdgglgaaGreatDoor
namespace Go.Proofs.YtjhbeecmdgglgaaGreatDoor
def viewR (rows:List (List Val)):AV:=(foldR [] 0 (rows.map fun r=>(1,r))).1
theorem i_look {A:AV}{r:List Val}{m:Int}(hm:0≤m)(h: ∀q∈A,1≤q.2∧q.2≤m):0≤lookA A r∧lookA A r≤m:=by
 induction A with
 |nil=>unfold lookA;omega
 |cons q A ih=>
  unfold lookA;split
  ·have:=h q (by simp);omega
  ·exact ih fun x hx=>h x (by simp[hx])
theorem i_len {A:AV}{r:List Val}{n:Int}:(putA A r n).length≤A.length+1:=by
 induction A with
 |nil=>simp[putA]
 |cons q A ih=>
  obtain⟨x,m⟩:=q;unfold putA;split
  ·simp
  ·split<;>simp<;>omega
theorem i_add {A:AV}{r:List Val}{m:Nat}(hq: ∀q∈A,1≤q.2∧q.2≤(m:Int))(hA:A.length≤m)(hm:m<4096):addR A r 1=(putA A r (lookA A r+1),0):=by
 have hlk:=i_look (r:=r) (m:=m) (by omega) hq;unfold addR;rw[if_neg (by omega),if_neg (by rintro(h|⟨-,-,h⟩)<;>omega),if_neg (by omega)]
structure VR (rows:List (List Val)) (A:AV):Prop where
 eq:A=rows.foldl (fun A r=>(addR A r 1).1) []
 rises:Rises A
 nums: ∀q∈A,1≤q.2∧q.2≤(rows.length:Int)
 len:A.length≤rows.length
theorem VR.start:VR [] []:=⟨rfl,Rises.nil,nofun,Nat.le_refl _⟩
theorem VR.look {rows:List (List Val)}{A:AV}(h:VR rows A)(r:List Val):0≤lookA A r∧lookA A r≤rows.length:=i_look (by omega) h.nums
theorem VR.step {rows:List (List Val)}{A:AV}{r:List Val}(h:VR rows A)(hl:rows.length<4096)(hg:GoodR r):VR (rows++[r]) (addR A r 1).1:=by
 have hlk:=h.look r;have e:=i_add (r:=r) h.nums h.len hl;refine⟨?_,?_,?_,?_⟩
 ·rw[List.foldl_append,←h.eq];rfl
 ·rw[e];exact rises_put h.rises hg
 ·rw[e,List.length_append]
  intro q hq;rcases put_mem2 hq with h1|h1
  ·have:=h.nums q h1;simp;omega
  ·rw[h1];simp;omega
 ·rw[e,List.length_append];exact Nat.le_trans i_len (by have:=h.len;simp;omega)
theorem i_foldR: ∀ {rows:List (List Val)} {A:AV} {m:Nat} {i:Int},(∀q∈A,1≤q.2∧q.2≤(m:Int))→A.length≤m→m+rows.length≤4096→foldR A i (rows.map fun r=>(1,r))=(rows.foldl (fun A r=>(addR A r 1).1) A,0,0)
 |[],_,_,_,_,_,_=>rfl
 |r::l,A,m,i,hq,hA,hl=>by
  simp only[List.length_cons]at hl;have hlk:=i_look (r:=r) (m:=m) (by omega) hq;have e:=i_add (r:=r) hq hA (by omega);have h1:stepI 1=1:=rfl;rw[List.map_cons];unfold foldR;simp only[h1,e];rw[if_pos trivial,List.foldl_cons,e];refine i_foldR (m:=m+1) (fun q hq'=> ?_) (Nat.le_trans i_len (by omega)) (by omega);rcases put_mem2 hq' with h|h
  ·have:=hq q h;omega
  ·rw[h];omega
theorem VR.done {rows:List (List Val)}{A:AV}(h:VR rows A)(hl:rows.length≤4096):A=viewR rows:=by
 unfold viewR;rw[i_foldR (m:=0) (fun q hq=>by cases hq) (Nat.le_refl _) (by omega),h.eq]
theorem i_fine {r:List Val}(h:GoodR r):Fine r:=⟨fun x hx=>Nat.le_trans (good_size (h.good x hx).1) (by omega),fun x hx=>(h.good x hx).2⟩
theorem i_keyErr {r:List Val}(h:GoodR r):keyErr r=0:=by
 unfold keyErr;rw[if_neg (by have:=h.few;omega)]
 exact firstNZ_none fun x hx=>by
  obtain⟨y,hy,rfl⟩:=List.mem_map.1 hx;exact(h.good y hy).1
theorem ins_fold {rows:List (List Val)}{m:List Chn}(h:ac m=rows.map fun r=>(1,r))(hg: ∀r∈rows,GoodR r)(hl:rows.length≤4096):FineC m∧foldS [] m=(viewR rows,0,0):=by
 have hlen:m.length=rows.length:=by
  have h1:=congrArg List.length h;unfold ac at h1;rwa[List.length_map,List.length_map]at h1
 have hin: ∀c∈m,c.k=1∧GoodR c.r:=fun c hc=>by
  have h1:(c.k,c.r)∈ac m:=List.mem_map.2 ⟨c,hc,rfl⟩;rw[h]at h1;obtain⟨r,hr,e⟩:=List.mem_map.1 h1;injection e with e1 e2;exact⟨e1.symm,by rw[←e2];exact hg r hr⟩
 refine⟨⟨fun c hc=>i_fine (hin c hc).2,fun c hc=>by rw[(hin c hc).1];omega⟩,?_⟩
 have hf:formC m=0:=by
  unfold formC;rw[if_neg (by omega)];refine firstNZ_none fun x hx=> ?_;obtain⟨i,hi,rfl⟩:=List.mem_map.1 hx;have e:=List.getElem?_eq_getElem (l:=m) (List.mem_range.1 hi);have h1:=hin _ (List.getElem_mem (List.mem_range.1 hi));exact err_no e (by omega) (by omega) (i_keyErr h1.2) (by rw[h1.1];omega)
 unfold foldS;rw[show chkV []=0 from rfl,if_neg (by omega),hf,if_neg (by omega),h,show av []=[]from rfl,i_foldR (m:=0) (fun q hq=>by cases hq) (Nat.le_refl _) (by omega)];unfold viewR;rw[i_foldR (m:=0) (fun q hq=>by cases hq) (Nat.le_refl _) (by omega)]
end Go.Proofs.YtjhbeecmdgglgaaGreatDoor
namespace Go.Proofs.YtjhbeecmdgglgaaGreatDoor
open Go.RowKit Go.Maps
theorem chgI:EInfo Tryz.prog 48 2 32:=by
 have h:(Tryz.prog.info? 48).map (fun i=>(i.zero,i.size,i.bytes))=some (some (.agg #[.int .i64 0,.slice none 0 0]),2,32):=by kernel_rfl
 obtain⟨i,hi,h1,h2,h3⟩:=info_parts h;exact⟨i,_,hi,h1,h2,h3,rfl,by omega⟩
structure OwnC (w:World) (base:Nat) (v:Value) (l:List Chn):Prop where
 own:w.ownsRow base 48 2 v l.length (chnCells l)
 rows: ∀c∈l,Sl w c.v c.r.length (rowCells c.r)
 far: ∀c∈l,∀k,c.v.ownBlock=some k→base≤k∧k<w.heap.size∧v.ownBlock≠some k
theorem OwnC.chs {w:World}{base:Nat}{v:Value}{l:List Chn}(h:OwnC w base v l):Chs w v l:=⟨Sl.of_own h.own,h.rows⟩
theorem OwnC.below {w w':World}{base:Nat}{v:Value}{l:List Chn}(h:OwnC w base v l)(hb:Below w.heap.size w w'):OwnC w' base v l:=
 ⟨own_below h.own hb,fun c hc=>(h.rows c hc).below hb,fun c hc k hk=>⟨(h.far c hc k hk).1,Nat.lt_of_lt_of_le (h.far c hc k hk).2.1 hb.size,(h.far c hc k hk).2.2⟩⟩
theorem OwnC.alloc {w:World}{base:Nat}{v:Value}{l:List Chn}(h:OwnC w base v l)(o:Obj):OwnC (w.alloc o) base v l:=h.below (below_alloc w o)
theorem OwnC.drew {w:World}{base:Nat}{v:Value}{l:List Chn}(h:OwnC w base v l):OwnC w.drew base v l:=⟨h.own,h.rows,h.far⟩
theorem OwnC.nil (w:World)(base:Nat):OwnC w base (.slice none 0 0) []:=⟨⟨rfl,.inl ⟨rfl,rfl⟩⟩,nofun,nofun⟩
theorem chnCells_app (a b:List Chn):chnCells (a++b)=chnCells a++chnCells b:=List.flatMap_append
theorem OwnC.snoc {w w':World}{base:Nat}{v v':Value}{l:List Chn}{c:Chn}(h:OwnC w base v l)(hown:w'.ownsRow base 48 2 v' (l.length+1) (chnCells l++c.cells))(hg:w.grownBy w' v.ownBlock)(hat:v'.ownBlock=v.ownBlock∨v'.ownBlock=some w.heap.size)
 (hc:Sl w c.v c.r.length (rowCells c.r)) (hf: ∀k,c.v.ownBlock=some k→base≤k∧k<w.heap.size∧v.ownBlock≠some k):OwnC w' base v' (l++[c]):=by
 have hfar: ∀d∈l++[c],Sl w d.v d.r.length (rowCells d.r)∧ ∀k,d.v.ownBlock=some k→base≤k∧k<w.heap.size∧v.ownBlock≠some k:=by
  intro d hd;rcases List.mem_append.1 hd with hd|hd
  ·exact⟨h.rows d hd,h.far d hd⟩
  ·simp only[List.mem_singleton]at hd;subst hd;exact⟨hc,hf⟩
 refine⟨?_,fun d hd=>sl_grown (hfar d hd).1 hg (fun k hk=>((hfar d hd).2 k hk).2.2),fun d hd k hk=> ?_⟩
 ·rw[chnCells_app,List.length_append]
  simpa[chnCells]using hown
 ·obtain⟨h0,h1,h2⟩:=(hfar d hd).2 k hk
  refine⟨h0,Nat.lt_of_lt_of_le h1 hg.size,fun e=> ?_⟩;rcases hat with e'|e'
  ·exact h2 (e'▸e)
  ·rw[e']at e
   injection e with e;omega
theorem OwnC.set {w:World}{base:Nat}{v:Value}{l:List Chn}(h:OwnC w base v l){p:Addr}(hp:p.block<base)(u:Value):OwnC (w.setCell p u) base v l:=
 ⟨own_set h.own (fun k hk e=>by have:=own_ge h.own k hk;omega) u,fun c hc=>sl_set (h.rows c hc) (fun _ k hk e=>by have:=(h.far c hc k hk).1;omega) u,
  fun c hc k hk=>by have:=h.far c hc k hk;rw[World.size_setCell];exact this⟩
theorem one_chn (W:World)(c:Chn):Sl (W.alloc (.cells #[.int .i64 c.k,c.v] 48)) (.slice (some ⟨W.heap.size,0,none⟩) 1 1) 1 c.cells:=Sl.block (Blk.new W 48 #[.int .i64 c.k,c.v]) 1 1 (Nat.le_refl _) (by decide)
theorem chn_one {w:World}{c:Chn}{n:Nat}{cs:List Value}(h:Sl w c.v n cs): ∀u∈c.cells,u.oneCell'=true:=by
 obtain⟨A,k,hv,-⟩:=h;intro u hu;simp[Chn.cells]at hu;rcases hu with rfl|rfl
 ·rfl
 ·rw[hv];rfl
end Go.Proofs.YtjhbeecmdgglgaaGreatDoor
namespace Go.Proofs.YtjhbeecmdgglgaaGreatDoor
open Go.RowKit Go.Maps
abbrev KL:=List (Int×List Val)
def dels (A:AV):KL:=A.flatMap fun p=>List.replicate (-p.2).toNat (2,p.1)
def inss (A:AV):KL:=A.flatMap fun p=>List.replicate p.2.toNat (1,p.1)
def tell (A:AV):KL:=dels A++inss A
theorem ac_len (l:List Chn):(ac l).length=l.length:=by unfold ac;rw[List.length_map]
end Go.Proofs.YtjhbeecmdgglgaaGreatDoor
namespace Go.Proofs.YtjhbeecmdgglgaaGreatDoor
open Go.RowKit Go.Maps
end Go.Proofs.YtjhbeecmdgglgaaGreatDoor
namespace Go.Proofs.YtjhbeecmdgglgaaGreatDoor
open Go.RowKit Go.Maps
instance valDec:DecidableEq Val:=fun a b=>
 if h:a.k=b.k∧a.n=b.n∧a.s=b.s then isTrue (by cases a;cases b;simp at h;obtain⟨rfl,rfl,rfl⟩:=h;rfl)else isFalse (by rintro rfl;simp at h)
theorem rowsF_gt {a b:List Val}(ha:GoodR a)(hb:GoodR b)(h0: ¬rowsF a b=0)(h1: ¬rowsF a b<0):rowsF b a<0:=by rw[rowsF_flip ha hb];omega
theorem Rises.head {x:List Val}{m:Int}{t:AV}(h:Rises ((x,m)::t)):GoodR x∧ ∀p∈t,rowsF x p.1<0:=⟨h.good (x,m) (by simp),(List.pairwise_cons.1 h.rise).1⟩
theorem look_cons {x:List Val}{m:Int}{t:AV}{r:List Val}:lookA ((x,m)::t) r=if rowsF x r=0 then m else lookA t r:=rfl
theorem has_cons {x:List Val}{m:Int}{t:AV}{r:List Val}:hasA ((x,m)::t) r=(decide (rowsF x r=0)||hasA t r):=rfl
theorem look_good {x:List Val}{m:Int}{t:AV}{r:List Val}(hx:GoodR x)(hr:GoodR r):lookA ((x,m)::t) r=if x=r then m else lookA t r:=by
 rw[look_cons];by_cases e:x=r
 ·rw[if_pos e,if_pos ((rowsF_zero hx hr).2 e)]
 ·rw[if_neg e,if_neg fun h=>e ((rowsF_zero hx hr).1 h)]
theorem has_good {x:List Val}{m:Int}{t:AV}{r:List Val}(hx:GoodR x)(hr:GoodR r):hasA ((x,m)::t) r=(decide (x=r)||hasA t r):=by
 rw[has_cons];by_cases e:x=r
 ·rw[decide_eq_true e,decide_eq_true ((rowsF_zero hx hr).2 e)]
 ·rw[decide_eq_false e,decide_eq_false fun h=>e ((rowsF_zero hx hr).1 h)]
theorem look_less {A:AV}{r:List Val}(hA:Rises A)(hr:GoodR r)(h: ∀p∈A,rowsF r p.1<0):lookA A r=0∧hasA A r=false:=by
 have:=look_more (A:=A) (r:=r) fun p hp=>by rw[rowsF_flip hr (hA.good p hp)];have:=h p hp;omega
 exact⟨this.1,this.2.1⟩
theorem look_head {x:List Val}{m:Int}{t:AV}(h:Rises ((x,m)::t)):lookA t x=0∧hasA t x=false:=look_less h.tail h.head.1 h.head.2
theorem has_no_look {A:AV}{r:List Val}(h:hasA A r=false):lookA A r=0:=by
 induction A with
 |nil=>rfl
 |cons x t ih=>
  obtain⟨x,m⟩:=x;rw[has_cons]at h;simp only[Bool.or_eq_false_iff,decide_eq_false_iff_not]at h;rw[look_cons,if_neg h.1,ih h.2]
theorem has_mem {A:AV}{p:List Val×Int}(hA:Rises A)(h:p∈A):hasA A p.1=true:=by
 induction A with
 |nil=>cases h
 |cons x t ih=>
  obtain⟨x,m⟩:=x;rw[has_cons];rcases List.mem_cons.1 h with rfl|h
  ·rw[decide_eq_true (rowsF_self hA.head.1)];rfl
  ·rw[ih hA.tail h,Bool.or_true]
theorem look_mem {A:AV}{p:List Val×Int}(hA:Rises A)(h:p∈A):lookA A p.1=p.2:=by
 obtain⟨i,hi,rfl⟩:=List.mem_iff_getElem.1 h;exact look_at hA (List.getElem?_eq_getElem hi)
theorem has_some {A:AV}{r:List Val}(hA:Rises A)(hr:GoodR r)(h:hasA A r=true):(r,lookA A r)∈A:=by
 induction A with
 |nil=>cases h
 |cons x t ih=>
  obtain⟨x,m⟩:=x;rw[has_cons]at h;rw[look_cons];by_cases e:rowsF x r=0
  ·rw[if_pos e,(rowsF_zero hA.head.1 hr).1 e];simp
  ·rw[if_neg e]
   rw[decide_eq_false e,Bool.false_or]at h;exact List.mem_cons_of_mem _ (ih hA.tail h)
theorem look_put {A:AV}{x r:List Val}{n:Int}(hA:Rises A)(hx:GoodR x)(hr:GoodR r):lookA (putA A x n) r=if x=r then n else lookA A r:=by
 induction A with
 |nil=>rw[putA,look_good hx hr]
 |cons y t ih=>
  obtain⟨y,m⟩:=y;have hy:=hA.head.1;unfold putA;by_cases e:rowsF y x=0
  ·rw[if_pos e]
   obtain rfl:=(rowsF_zero hy hx).1 e;rw[look_good hy hr,look_good hy hr];split<;>rfl
  ·rw[if_neg e]
   split
   ·rw[look_good hy hr,look_good hy hr,ih hA.tail]
    by_cases e1:y=r
    ·subst e1
     rw[if_pos rfl,if_pos rfl,if_neg fun h=>e ((rowsF_zero hy hx).2 h.symm)]
    ·rw[if_neg e1,if_neg e1]
   ·rw[look_good hx hr]
theorem has_put {A:AV}{x r:List Val}{n:Int}(hA:Rises A)(hx:GoodR x)(hr:GoodR r):hasA (putA A x n) r=(decide (x=r)||hasA A r):=by
 induction A with
 |nil=>rw[putA,has_good hx hr]
 |cons y t ih=>
  obtain⟨y,m⟩:=y;have hy:=hA.head.1;unfold putA;by_cases e:rowsF y x=0
  ·rw[if_pos e]
   obtain rfl:=(rowsF_zero hy hx).1 e;rw[has_good hy hr,has_good hy hr];cases decide (y=r)<;>simp
  ·rw[if_neg e]
   split
   ·rw[has_cons,has_cons,ih hA.tail]
    cases decide (x=r)<;>simp
   ·rw[has_good hx hr]
theorem rises_ext {P Q:AV}(hP:Rises P)(hQ:Rises Q)(h: ∀r,GoodR r→hasA P r=hasA Q r∧lookA P r=lookA Q r):P=Q:=by
 induction P generalizing Q with
 |nil=>
  cases Q with
  |nil=>rfl
  |cons q t=>have:=(h q.1 (hQ.good q (by simp))).1;rw[has_mem hQ (by simp)]at this;cases this
 |cons p t ih=>
  cases Q with
  |nil=>have:=(h p.1 (hP.good p (by simp))).1;rw[has_mem hP (by simp)]at this;cases this
  |cons q u=>
   obtain⟨p,m⟩:=p;obtain⟨q,n⟩:=q;have hp:=hP.head.1;have hq:=hQ.head.1;by_cases e:rowsF p q=0
   ·obtain rfl:=(rowsF_zero hp hq).1 e
    have h1:=(h p hp).2;rw[look_cons,look_cons,if_pos e,if_pos e]at h1;subst h1
    congr 1
    refine ih hP.tail hQ.tail fun r hr=> ?_;have h2:=h r hr;rw[look_good hp hr,look_good hp hr,has_good hp hr,has_good hp hr]at h2;by_cases e1:p=r
    ·subst e1
     rw[(look_head hP).1,(look_head hQ).1,(look_head hP).2,(look_head hQ).2];exact⟨rfl,rfl⟩
    ·simp only[e1,decide_false,Bool.false_or,if_false]at h2
     exact h2
   ·exfalso
    by_cases l:rowsF p q<0
    ·have h1:=(h p hp).1
     rw[has_mem hP (p:=(p,m)) (by simp),(look_less hQ hp fun x hx=> ?_).2]at h1
     ·cases h1
     ·rcases List.mem_cons.1 hx with rfl|hx
      ·exact l
      ·exact rowsF_trans hp hq (hQ.good x (by simp[hx])) l (hQ.head.2 x hx)
    ·have l':=rowsF_gt hp hq e l
     have h1:=(h q hq).1;rw[has_mem hQ (p:=(q,n)) (by simp),(look_less hP hq fun x hx=> ?_).2]at h1
     ·cases h1
     ·rcases List.mem_cons.1 hx with rfl|hx
      ·exact l'
      ·exact rowsF_trans hq hp (hP.good x (by simp[hx])) l' (hP.head.2 x hx)
theorem GoodA.has {A:AV}(h:GoodA A){r:List Val}(hr:GoodR r):hasA A r=decide (lookA A r≠0):=by
 cases hh:hasA A r with
 |false=>rw[has_no_look hh];rfl
 |true=>have:=h.nums _ (has_some h.rises hr hh);simp only at this;exact(decide_eq_true (by omega)).symm
theorem Rises.cons {x:List Val}{m:Int}{t:AV}(hx:GoodR x)(h:Rises t)(hl: ∀p∈t,rowsF x p.1<0):Rises ((x,m)::t):=
 ⟨fun p hp=>by
  rcases List.mem_cons.1 hp with rfl|hp
  ·exact hx
  ·exact h.good p hp,List.pairwise_cons.2 ⟨hl,h.rise⟩⟩
end Go.Proofs.YtjhbeecmdgglgaaGreatDoor
