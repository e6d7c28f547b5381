/-Groups: the reference's fitsTypes of any row. Batches: the reference's GroupError. -/
import Derived.Test.YtjhbeecmdgglgaaGreatDoorGrpX9
import Derived.Test.YtjhbeecmdgglgaaGreatDoorGrpX23
import Derived.Test.YtjhbeecmdgglgaaGreatDoorGrpX27
import Derived.Test.YtjhbeecmdgglgaaGreatDoorGrpX19
import Derived.Test.YtjhbeecmdgglgaaGreatDoorGrpX8
set_option linter.unusedSimpArgs false
set_option linter.unusedVariables false
namespace Go.Proofs.YtjhbeecmdgglgaaGreatDoor
open Go.RowKit
set_option maxHeartbeats 1000000 in
theorem rfitsE_any (vt v:Value)(t:List Int)(r:List Val)(w:World)(ht:Sl w vt t.length (intCells t))(hr:Sl w v r.length (rowCells r)):
 Calls Tryz.prog 65 #[vt,v] w fun e w'=>e= .returned (.int .i64 (fitE t r))∧Below w.heap.size w w':=by
 by_cases h:r.length=t.length
 ·have e:fitE t r=if allB fitOne (t.zip r)then 0 else 5:=by unfold fitE;rw[if_neg (by omega)]
  rw[e];exact fitsTypes_any vt v t r w ht hr h
 ·have E:=Lib.hid (fit_len h)
  obtain⟨At,ct,rfl,-⟩:=ht;obtain⟨Ar,cr,rfl,-⟩:=hr;have hne:((r.length:Int)==(t.length:Int))=false:=beqF (by omega);have hne':=bne_of hne;simp only[Bool.not_false]at hne';go_enter Tryz.func65,Tryz.ntmps65
  go_wp2;go_ret;exact⟨ret_int E.out.symm,Below.refl _ _⟩
end Go.Proofs.YtjhbeecmdgglgaaGreatDoor
namespace Go.Proofs.YtjhbeecmdgglgaaGreatDoor
open Go.RowKit
def manyB (t:List Int) (l:List (List Val)):Bool:=l.any fun r=>fitE t r==2
def kindB (t:List Int) (l:List (List Val)):Bool:=l.any fun r=>fitE t r==5
theorem rows_flags (t:List Int)(l:List (List Val)):rowsE t l=if manyB t l=true then 2 else if kindB t l=true then 5 else 0:=by
 have h2: ∀r:List Val,fitE t r=2↔r.length≠t.length:=fun r=>by
  unfold fitE;split
  ·rename_i h;exact⟨fun _=>h,fun _=>rfl⟩
  ·rename_i h;split<;>simp[h]
 have h5: ∀r:List Val,r.length=t.length→(fitE t r=5↔allB fitOne (t.zip r)=false):=fun r h=>by
  unfold fitE;rw[if_neg (by omega)];split<;>simp_all
 have e1:manyB t l= !longB t.length l:=by
  unfold manyB longB
  induction l with
  |nil=>rfl
  |cons r l ih=>
   rw[List.any_cons,List.all_cons,ih,Bool.not_and]
   congr 1
   by_cases h:r.length=t.length
   ·have:=(not_congr (h2 r)).2 (by simpa using h)
    simp[this,h]
   ·simp[(h2 r).2 h,h]
 unfold rowsE;cases hb:longB t.length l with
 |false=>rw[e1,hb];rfl
 |true=>
  rw[e1,hb];simp only[Bool.true_eq_false,if_false,Bool.not_true,Bool.false_eq_true]
  have e2:kindB t l= !typB t l:=by
   unfold longB at hb;clear e1;unfold kindB typB
   induction l with
   |nil=>rfl
   |cons r l ih=>
    rw[List.all_cons,Bool.and_eq_true]at hb;rw[List.any_cons,List.all_cons,ih hb.2,Bool.not_and]
    congr 1
    have hr:r.length=t.length:=by simpa using hb.1
    cases hz:allB fitOne (t.zip r)with
    |false=>simp[(h5 r hr).2 hz]
    |true=>have:=(not_congr (h5 r hr)).2 (by simp[hz]);simp[this]
  rw[e2];cases typB t l<;>rfl
theorem many_step {t:List Int}{l:List (List Val)}{k:Nat}{r:List Val}(h:l[k]?=some r):manyB t (l.take (k+1))=(manyB t (l.take k)||fitE t r==2)∧kindB t (l.take (k+1))=(kindB t (l.take k)||fitE t r==5):=by
 unfold manyB kindB;rw[List.take_add_one,h];simp
theorem fitE_cases (t:List Int)(r:List Val):fitE t r=0∨fitE t r=2∨fitE t r=5:=by
 unfold fitE;split
 ·exact .inr (.inl rfl)
 ·split
  ·exact .inl rfl
  ·exact .inr (.inr rfl)
set_option maxHeartbeats 4000000 in
set_option maxRecDepth 10000 in
theorem groupError_any (p:Pl)(v:Value)(l:List Cnt)(w:World)(h:p.ok w)(hz:checkP p=0)(hV:View w v l)(hfv:FineV l):
 Calls Tryz.prog 17 #[.agg #[.int .i64 p.kind,.int .i64 p.mode,.int .i64 p.low,.int .i64 p.high,.int .i64 p.size,.int .i64 p.limit,p.vl,p.vr,p.vk,p.vq,.bool p.grouped,p.vg,p.va],v] w fun e w'=>e= .returned (.int .i64 (groupE p l))∧Below w.heap.size w w':=by
 have HV:=Lib.hid hV;have HCV:=Lib.hid (fun W (hb:Below w.heap.size w W)=>rcheckView_any v l W (hV.below hb) hfv);have HTY:Hid (∀W,Below w.heap.size w W→Calls Tryz.prog 62 #[.agg #[.int .i64 p.kind,.int .i64 p.mode,.int .i64 p.low,.int .i64 p.high,.int .i64 p.size,.int .i64 p.limit,p.vl,p.vr,p.vk,p.vq,.bool p.grouped,p.vg,p.va]] W fun e w'=> ∃v,e= .returned v∧Sl w' v (allT p).length (intCells (allT p))∧(∀k,v.ownBlock=some k→W.heap.size≤k)∧Below W.heap.size W w'):=Lib.hid (fun W hb=>types_any p W (h.below hb) (by have:=(counts_short (check_ok hz).2.2.1).l2;omega) (by have:=(counts_short (check_ok hz).2.2.1).r2;omega));have HEE:Hid (groupE p l=if p.grouped=false then 1 else if chkV l≠0 then chkV l else if manyB (allT p) (rsV l)=true then 2 else if kindB (allT p) (rsV l)=true then 5 else 0):=Lib.hid (by unfold groupE;rw[if_neg (by omega),rows_flags]);obtain⟨E,hE⟩: ∃E,groupE p l=E:=⟨_,rfl⟩;rw[hE]at HEE⊢;clear hE;obtain⟨A0,c0,h0,n0,m0,-⟩:=id h.l;obtain⟨A1,c1,h1,n1,m1,-⟩:=id h.r;obtain⟨A2,c2,h2,n2,m2,-⟩:=id h.k;obtain⟨A3,c3,h3,n3,m3,-⟩:=id h.q;obtain⟨A4,c4,h4,n4,m4,-⟩:=id h.g;obtain⟨A5,c5,h5,n5,m5,-⟩:=id h.a;obtain⟨Av,cv,rfl,nv,mv,-⟩:=id hV.sl;unfold maxLen at mv;rw[h0,h1,h2,h3,h4,h5]at HTY⊢;have HB:=Lib.hid (below_alloc w (.cells #[.int .i64 p.kind,.int .i64 p.mode,.int .i64 p.low,.int .i64 p.high,.int .i64 p.size,.int .i64 p.limit,.slice A0 p.left.length c0,.slice A1 p.right.length c1,.slice A2 p.lkeys.length c2,.slice A3 p.rkeys.length c3,.bool p.grouped,.slice A4 p.group.length c4,.slice A5 p.aggs.length c5] 25));have HK0:=Lib.hid (Blk.new w 25 #[.int .i64 p.kind,.int .i64 p.mode,.int .i64 p.low,.int .i64 p.high,.int .i64 p.size,.int .i64 p.limit,.slice A0 p.left.length c0,.slice A1 p.right.length c1,.slice A2 p.lkeys.length c2,.slice A3 p.rkeys.length c3,.bool p.grouped,.slice A4 p.group.length c4,.slice A5 p.aggs.length c5]);obtain⟨W1,hW1⟩: ∃V,w.alloc (.cells #[.int .i64 p.kind,.int .i64 p.mode,.int .i64 p.low,.int .i64 p.high,.int .i64 p.size,.int .i64 p.limit,.slice A0 p.left.length c0,.slice A1 p.right.length c1,.slice A2 p.lkeys.length c2,.slice A3 p.rkeys.length c3,.bool p.grouped,.slice A4 p.group.length c4,.slice A5 p.aggs.length c5] 25)=V:=⟨_,rfl⟩;rw[hW1]at HB HK0;have hb1:=HB.out;obtain⟨z0,z1,z2,z3,z4,z5,z6,z7,z8,z9,z10,z11,z12⟩:=pl_cells HK0.out;clear h h0 h1 h2 h3 h4 h5 n0 n1 n2 n3 n4 n5 m0 m1 m2 m3 m4 m5 hV hfv hz;cases hgr:p.grouped with
 |false=>
  have HEF:Hid (E=1):=Lib.hid (HEE.out.trans (if_pos hgr));clear HEE;rw[hgr]at hW1 HTY HK0 z10;go_enter Tryz.func17,Tryz.ntmps17
  go_wp2_with fail
  go_ret;exact⟨ret_int HEF.out.symm,HB.out⟩
 |true=>
  have HEF:=Lib.hid (HEE.out.trans (if_neg (by rw[hgr];decide)));clear HEE;rw[hgr]at hW1 HTY HK0 z10;go_enter Tryz.func17,Tryz.ntmps17
  go_wp2_with fail
  refine Calls.mono (by with_reducible exact HCV.out _ hb1) ?_;rintro e w2 ⟨rfl,hb2⟩;have hbw2:=below_trans hb1 hb2;by_cases hc:chkV l=0
  ·have HE2:=Lib.hid (HEF.out.trans (if_neg (fun e=>e hc)))
   obtain⟨z0,z1,z2,z3,z4,z5,z6,z7,z8,z9,z10,z11,z12⟩:=pl_cells (HK0.out.below hb2);have hq:=beqT hc;clear HEF hb2 hW1
   go_wp2_with fail
   refine Calls.mono (by with_reducible exact HTY.out _ hbw2) ?_;rintro e w3 ⟨vt,rfl,ht,-,hb3⟩;have hbw3:=below_trans hbw2 hb3;have HT:=Lib.hid ht;obtain⟨At,ct,rfl,-⟩:=id ht;clear ht HTY hb3 hbw2
   go_wp2_with fail
   go_loopw[7,8,9,10] (fun mv kv iv _ wr=> ∃k:Nat,k≤l.length∧mv= .bool (manyB (allT p) ((rsV l).take k))∧kv= .bool (kindB (allT p) ((rsV l).take k))∧iv= .int .i64 k∧Below w3.heap.size w3 wr) (fun _ _ iv _ _=>l.length-(intOf iv).toNat)
   case atStart=>exact⟨0,by omega,rfl,rfl,rfl,Below.refl _ _⟩
   case round=>
    rename World=>wr
    obtain⟨k,hk,rfl,rfl,rfl,hbr⟩:=hrel;by_cases hlt:k<l.length
    ·have hx:=List.getElem?_eq_getElem (l:=l) hlt
     generalize l[k]=x at hx;obtain⟨b1,o1,hA1,-,hc1⟩:=cnt_at HV.out.sl rfl hx;subst hA1;obtain⟨d1,-⟩:=hc1 _ (below_trans hbw3 hbr);have HFC:=Lib.hid (rfitsE_any _ x.v (allT p) x.r wr (HT.out.below hbr) ((HV.out.rows x (List.mem_of_getElem? hx)).below (below_trans hbw3 hbr)));have HST:=Lib.hid (many_step (t:=allT p) (rsV_at hx));have HFE:=Lib.hid (fitE_cases (allT p) x.r);obtain⟨F,hF⟩: ∃F,fitE (allT p) x.r=F:=⟨_,rfl⟩;rw[hF]at HFC HST HFE;obtain⟨xv,xr,xn⟩:=x;simp only at d1 HFC;have i0:(0:Int)≤(k:Int):=by omega
     have i1:(k:Int)<(l.length:Int):=by omega
     clear hx hF hc1;generalize manyB (allT p) ((rsV l).take k)=M at HST⊢;generalize kindB (allT p) ((rsV l).take k)=K at HST⊢
     go_wp2_with fail
     refine Calls.mono (by with_reducible exact HFC.out) ?_;rintro e w4 ⟨rfl,hb4⟩;have HBX:=Lib.hid (below_trans hbr hb4);have HST1:=Lib.hid HST.out.1;have HST2:=Lib.hid HST.out.2;clear HST
     rcases HFE.out with rfl|rfl|rfl<;>cases M<;>cases K<;>(
      go_wp2;go_roundw
      case rel=>exact⟨k+1,by omega,by rw[HST1.out];rfl,by rw[HST2.out];rfl,by go_num,HBX.out⟩
      case measure=>simp[intOf];omega)
    ·obtain rfl:k=l.length:=by omega
     have hq1: ¬(l.length:Int)<(l.length:Int):=by omega
     have htk:(rsV l).take l.length=rsV l:=List.take_of_length_le (by rw[rsV_len];exact Nat.le_refl _);rw[htk];have HBX:=Lib.hid (below_trans hbw3 hbr);cases hM:manyB (allT p) (rsV l)with
     |true=>
      have HE3:Hid (E=2):=Lib.hid (HE2.out.trans (if_pos hM));go_wp2;go_ret;exact⟨ret_int HE3.out.symm,HBX.out⟩
     |false=>
      have HE3:=Lib.hid (HE2.out.trans (if_neg (by rw[hM];decide)));cases hK:kindB (allT p) (rsV l)with
      |true=>
       have HE4:Hid (E=5):=Lib.hid (HE3.out.trans (if_pos hK));go_wp2;go_ret;exact⟨ret_int HE4.out.symm,HBX.out⟩
      |false=>
       have HE4:Hid (E=0):=Lib.hid (HE3.out.trans (if_neg (by rw[hK];decide)));go_wp2;go_ret;exact⟨ret_int HE4.out.symm,HBX.out⟩
  ·have HE2:Hid (E=chkV l):=Lib.hid (HEF.out.trans (if_pos hc))
   have hq:=bneT hc;clear HEF
   go_wp2_with fail
   go_ret;exact⟨ret_int HE2.out.symm,hbw2⟩
end Go.Proofs.YtjhbeecmdgglgaaGreatDoor
