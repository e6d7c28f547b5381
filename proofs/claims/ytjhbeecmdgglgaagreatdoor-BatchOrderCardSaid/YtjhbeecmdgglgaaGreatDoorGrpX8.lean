/-Plans: Check. Plans: Out, and the reference's OutOf. Plans: the reference's Types. Plans: the reference's OutOf; sameInts. What buffers need of rows:  -/
import Derived.Test.YtjhbeecmdgglgaaGreatDoorGrpX7
import Derived.Laws.EntriesVeiled
import Derived.Test.YtjhbeecmdgglgaaGreatDoorGrpX6
import Derived.Test.YtjhbeecmdgglgaaGreatDoorGrpX4
import Derived.Lib.Walk
import Derived.Lib.SliceRun
set_option linter.unusedSimpArgs false
set_option linter.unusedVariables false
namespace Go.Proofs.YtjhbeecmdgglgaaGreatDoor
open Go.RowKit Go.Maps
def checkP (p:Pl):Int:=if kindsB p then if rangesB p then if countsB p then if typesB p then if formB p then 0 else 1 else 5 else 2 else 3 else 4
theorem counts_short {p:Pl}(h:countsB p=true):p.short:=by
 unfold countsB at h;rw[Bool.and_eq_true]at h;obtain⟨h1,h2⟩:=h;simp only[allB,lens,List.all_cons,List.all_nil,id,Bool.and_true,Bool.and_eq_true]at h1;obtain⟨a,b,c,d⟩:=h1;have a:=btw_of a;have b:=btw_of b;have c:=btw_of c;have d:=btw_of d
 have e:p.group.length≤8∧p.aggs.length≤4:=by
  cases hg:p.grouped
  ·rw[hg]at h2
   simp at h2;omega
  ·rw[hg]at h2
   simp only[if_true,Bool.and_eq_true,decide_eq_true_eq]at h2;have:=btw_of h2.1;omega
 exact⟨by omega,by omega,by omega,by omega,by omega,by omega,by omega,by omega,e.1,e.2⟩
set_option maxHeartbeats 4000000 in
set_option maxRecDepth 10000 in
theorem check_any (p:Pl)(w:World)(h:p.ok w)(hf:p.fit):
 Calls Tryz.prog 52 #[.agg #[.int .i64 p.kind,.int .i64 p.mode,.int .i64 p.low,.int .i64 p.high,.int .i64 p.size,.int .i64 p.limit,p.vl,p.vr,p.vk,p.vq,.bool p.grouped,p.vg,p.va]] w fun e w'=>e= .returned (.int .i64 (checkP p))∧Below w.heap.size w w':=by
 have HO:=Lib.hid h;have HF:=Lib.hid hf;have K1:=Blk.new w 25 #[.int .i64 p.kind,.int .i64 p.mode,.int .i64 p.low,.int .i64 p.high,.int .i64 p.size,.int .i64 p.limit,p.vl,p.vr,p.vk,p.vq,.bool p.grouped,p.vg,p.va];have K1:=K1.alloc (.cells #[.func (.func 96) #[] #[],.int .i64 4,.func (.func 97) #[] #[],.int .i64 3,.func (.func 98) #[] #[],.int .i64 2,.func (.func 99) #[] #[],.int .i64 5,.func (.func 100) #[] #[],.int .i64 1] 139);have K2:=new_second w 139 #[.func (.func 96) #[] #[],.int .i64 4,.func (.func 97) #[] #[],.int .i64 3,.func (.func 98) #[] #[],.int .i64 2,.func (.func 99) #[] #[],.int .i64 5,.func (.func 100) #[] #[],.int .i64 1] (.cells #[.int .i64 p.kind,.int .i64 p.mode,.int .i64 p.low,.int .i64 p.high,.int .i64 p.size,.int .i64 p.limit,p.vl,p.vr,p.vk,p.vq,.bool p.grouped,p.vg,p.va] 25);have hB:=below_trans (below_alloc w (.cells #[.int .i64 p.kind,.int .i64 p.mode,.int .i64 p.low,.int .i64 p.high,.int .i64 p.size,.int .i64 p.limit,p.vl,p.vr,p.vk,p.vq,.bool p.grouped,p.vg,p.va] 25)) (below_alloc _ (.cells #[.func (.func 96) #[] #[],.int .i64 4,.func (.func 97) #[] #[],.int .i64 3,.func (.func 98) #[] #[],.int .i64 2,.func (.func 99) #[] #[],.int .i64 5,.func (.func 100) #[] #[],.int .i64 1] 139));obtain⟨bs,hbs⟩: ∃bs:List Bool,bs=[kindsB p,rangesB p,countsB p,typesB p,formB p]:=⟨_,rfl⟩;have HBS:=Lib.hid hbs;have HC:Hid (checkP p=if kindsB p then if rangesB p then if countsB p then if typesB p then if formB p then 0 else 1 else 5 else 2 else 3 else 4):=Lib.hid rfl;generalize checkP p=R at HC⊢;clear h hf hbs;go_enter Tryz.func52,Tryz.ntmps52
 go_wp2_with fail
 go_loopw[4,12] (fun _ i wr=> ∃k:Nat,k≤5∧i= .int .i64 k∧Hid (∀b∈bs.take k,id b=true)∧Blk wr w.heap.size 25 #[.int .i64 p.kind,.int .i64 p.mode,.int .i64 p.low,.int .i64 p.high,.int .i64 p.size,.int .i64 p.limit,p.vl,p.vr,p.vk,p.vq,.bool p.grouped,p.vg,p.va]∧Blk wr (w.heap.size+1) 139 #[.func (.func 96) #[] #[],.int .i64 4,.func (.func 97) #[] #[],.int .i64 3,.func (.func 98) #[] #[],.int .i64 2,.func (.func 99) #[] #[],.int .i64 5,.func (.func 100) #[] #[],.int .i64 1]∧Below w.heap.size w wr) (fun _ i _=>5-(intOf i).toNat)
 case atStart=>exact⟨0,by omega,rfl,by simp[Hid],K1,K2,hB⟩
 case round=>
  obtain⟨k,hk,rfl,H,J1,J2,hbw⟩:=hrel;have hk5:k=0∨k=1∨k=2∨k=3∨k=4∨k=5:=by omega
  rcases hk5 with rfl|rfl|rfl|rfl|rfl|rfl
  ·have z0:=J2.cell 0 _ rfl
   have z1:=J2.cell 1 _ rfl;have J1':=J1.alloc (.cells #[.func (.func 96) #[] #[],.int .i64 4] 139);have J2':=J2.alloc (.cells #[.func (.func 96) #[] #[],.int .i64 4] 139);have y0:=J1'.cell 0 _ rfl;have y1:=J1'.cell 1 _ rfl;have y2:=J1'.cell 2 _ rfl;have y3:=J1'.cell 3 _ rfl;have y4:=J1'.cell 4 _ rfl;have y5:=J1'.cell 5 _ rfl;have y6:=J1'.cell 6 _ rfl;have y7:=J1'.cell 7 _ rfl;have y8:=J1'.cell 8 _ rfl;have y9:=J1'.cell 9 _ rfl;have y10:=J1'.cell 10 _ rfl;have y11:=J1'.cell 11 _ rfl;have y12:=J1'.cell 12 _ rfl;have hbw2:=hbw.alloc hbw.size (.cells #[.func (.func 96) #[] #[],.int .i64 4] 139);have hsz:=hbw.size;have G: ∀(j:Nat) (b:Bool),j<0→bs[j]?=some b→b=true:=fun j b hj hb=>H.out b (List.mem_of_getElem? (i:=j) (by rw[List.getElem?_take,if_pos hj];exact hb));clear G;cases hq:kindsB p
   ·have EE:=Lib.hid (HC.out.trans (by simp only[hq];rfl:_=(4:Int)))
    have HQ:=Lib.hid hq;clear hq
    go_wp2_with fail
    refine(kinds_any p _ (HO.out.below hbw2)).mono ?_;rw[HQ.out];rintro e w1 ⟨rfl,hb1⟩;have x0:=((Blk.new wr 139 #[.func (.func 96) #[] #[],.int .i64 4]).below hb1).cell 1 _ rfl;go_wp2;go_ret;exact⟨by rw[EE.out];rfl,below_trans hbw2 hb1⟩
   ·have e1:=Lib.hid (all_step (f:=id) (l:=bs) (k:=0) H.out (by rw[HBS.out];rfl) hq)
    have HQ:=Lib.hid hq;clear hq
    go_wp2_with fail
    refine(kinds_any p _ (HO.out.below hbw2)).mono ?_;rw[HQ.out];rintro e w1 ⟨rfl,hb1⟩;go_wp2;go_roundw
    case rel=>exact⟨1,by omega,by go_num,e1.out,J1'.below hb1,J2'.below hb1,below_trans hbw2 hb1⟩
    case measure=>simp[intOf]
  ·have z0:=J2.cell 2 _ rfl
   have z1:=J2.cell 3 _ rfl;have J1':=J1.alloc (.cells #[.func (.func 97) #[] #[],.int .i64 3] 139);have J2':=J2.alloc (.cells #[.func (.func 97) #[] #[],.int .i64 3] 139);have y0:=J1'.cell 0 _ rfl;have y1:=J1'.cell 1 _ rfl;have y2:=J1'.cell 2 _ rfl;have y3:=J1'.cell 3 _ rfl;have y4:=J1'.cell 4 _ rfl;have y5:=J1'.cell 5 _ rfl;have y6:=J1'.cell 6 _ rfl;have y7:=J1'.cell 7 _ rfl;have y8:=J1'.cell 8 _ rfl;have y9:=J1'.cell 9 _ rfl;have y10:=J1'.cell 10 _ rfl;have y11:=J1'.cell 11 _ rfl;have y12:=J1'.cell 12 _ rfl;have hbw2:=hbw.alloc hbw.size (.cells #[.func (.func 97) #[] #[],.int .i64 3] 139);have hsz:=hbw.size;have G: ∀(j:Nat) (b:Bool),j<1→bs[j]?=some b→b=true:=fun j b hj hb=>H.out b (List.mem_of_getElem? (i:=j) (by rw[List.getElem?_take,if_pos hj];exact hb));have B0:=Lib.hid (G 0 (kindsB p) (by omega) (by rw[HBS.out];rfl));clear G;cases hq:rangesB p
   ·have EE:=Lib.hid (HC.out.trans (by simp only[B0.out,hq];rfl:_=(3:Int)))
    have HQ:=Lib.hid hq;clear hq
    go_wp2_with fail
    refine(ranges_any p _).mono ?_;rw[HQ.out];rintro e w1 ⟨rfl,hb1⟩;have x0:=((Blk.new wr 139 #[.func (.func 97) #[] #[],.int .i64 3]).below hb1).cell 1 _ rfl;go_wp2;go_ret;exact⟨by rw[EE.out];rfl,below_trans hbw2 hb1⟩
   ·have e1:=Lib.hid (all_step (f:=id) (l:=bs) (k:=1) H.out (by rw[HBS.out];rfl) hq)
    have HQ:=Lib.hid hq;clear hq
    go_wp2_with fail
    refine(ranges_any p _).mono ?_;rw[HQ.out];rintro e w1 ⟨rfl,hb1⟩;go_wp2;go_roundw
    case rel=>exact⟨2,by omega,by go_num,e1.out,J1'.below hb1,J2'.below hb1,below_trans hbw2 hb1⟩
    case measure=>simp[intOf]
  ·have z0:=J2.cell 4 _ rfl
   have z1:=J2.cell 5 _ rfl;have J1':=J1.alloc (.cells #[.func (.func 98) #[] #[],.int .i64 2] 139);have J2':=J2.alloc (.cells #[.func (.func 98) #[] #[],.int .i64 2] 139);have y0:=J1'.cell 0 _ rfl;have y1:=J1'.cell 1 _ rfl;have y2:=J1'.cell 2 _ rfl;have y3:=J1'.cell 3 _ rfl;have y4:=J1'.cell 4 _ rfl;have y5:=J1'.cell 5 _ rfl;have y6:=J1'.cell 6 _ rfl;have y7:=J1'.cell 7 _ rfl;have y8:=J1'.cell 8 _ rfl;have y9:=J1'.cell 9 _ rfl;have y10:=J1'.cell 10 _ rfl;have y11:=J1'.cell 11 _ rfl;have y12:=J1'.cell 12 _ rfl;have hbw2:=hbw.alloc hbw.size (.cells #[.func (.func 98) #[] #[],.int .i64 2] 139);have hsz:=hbw.size;have G: ∀(j:Nat) (b:Bool),j<2→bs[j]?=some b→b=true:=fun j b hj hb=>H.out b (List.mem_of_getElem? (i:=j) (by rw[List.getElem?_take,if_pos hj];exact hb));have B0:=Lib.hid (G 0 (kindsB p) (by omega) (by rw[HBS.out];rfl));have B1:=Lib.hid (G 1 (rangesB p) (by omega) (by rw[HBS.out];rfl));clear G;cases hq:countsB p
   ·have EE:=Lib.hid (HC.out.trans (by simp only[B0.out,B1.out,hq];rfl:_=(2:Int)))
    have HQ:=Lib.hid hq;clear hq
    go_wp2_with fail
    refine(counts_any p _ (HO.out.below hbw2)).mono ?_;rw[HQ.out];rintro e w1 ⟨rfl,hb1⟩;have x0:=((Blk.new wr 139 #[.func (.func 98) #[] #[],.int .i64 2]).below hb1).cell 1 _ rfl;go_wp2;go_ret;exact⟨by rw[EE.out];rfl,below_trans hbw2 hb1⟩
   ·have e1:=Lib.hid (all_step (f:=id) (l:=bs) (k:=2) H.out (by rw[HBS.out];rfl) hq)
    have HQ:=Lib.hid hq;clear hq
    go_wp2_with fail
    refine(counts_any p _ (HO.out.below hbw2)).mono ?_;rw[HQ.out];rintro e w1 ⟨rfl,hb1⟩;go_wp2;go_roundw
    case rel=>exact⟨3,by omega,by go_num,e1.out,J1'.below hb1,J2'.below hb1,below_trans hbw2 hb1⟩
    case measure=>simp[intOf]
  ·have z0:=J2.cell 6 _ rfl
   have z1:=J2.cell 7 _ rfl;have J1':=J1.alloc (.cells #[.func (.func 99) #[] #[],.int .i64 5] 139);have J2':=J2.alloc (.cells #[.func (.func 99) #[] #[],.int .i64 5] 139);have y0:=J1'.cell 0 _ rfl;have y1:=J1'.cell 1 _ rfl;have y2:=J1'.cell 2 _ rfl;have y3:=J1'.cell 3 _ rfl;have y4:=J1'.cell 4 _ rfl;have y5:=J1'.cell 5 _ rfl;have y6:=J1'.cell 6 _ rfl;have y7:=J1'.cell 7 _ rfl;have y8:=J1'.cell 8 _ rfl;have y9:=J1'.cell 9 _ rfl;have y10:=J1'.cell 10 _ rfl;have y11:=J1'.cell 11 _ rfl;have y12:=J1'.cell 12 _ rfl;have hbw2:=hbw.alloc hbw.size (.cells #[.func (.func 99) #[] #[],.int .i64 5] 139);have hsz:=hbw.size;have G: ∀(j:Nat) (b:Bool),j<3→bs[j]?=some b→b=true:=fun j b hj hb=>H.out b (List.mem_of_getElem? (i:=j) (by rw[List.getElem?_take,if_pos hj];exact hb));have B0:=Lib.hid (G 0 (kindsB p) (by omega) (by rw[HBS.out];rfl));have B1:=Lib.hid (G 1 (rangesB p) (by omega) (by rw[HBS.out];rfl));have B2:=Lib.hid (G 2 (countsB p) (by omega) (by rw[HBS.out];rfl));have CC:=B2;clear G;cases hq:typesB p
   ·have EE:=Lib.hid (HC.out.trans (by simp only[B0.out,B1.out,B2.out,hq];rfl:_=(5:Int)))
    have HQ:=Lib.hid hq;clear hq
    go_wp2_with fail
    refine(typesFine_any p _ (HO.out.below hbw2) (counts_short CC.out)).mono ?_;rw[HQ.out];rintro e w1 ⟨rfl,hb1⟩;have x0:=((Blk.new wr 139 #[.func (.func 99) #[] #[],.int .i64 5]).below hb1).cell 1 _ rfl;go_wp2;go_ret;exact⟨by rw[EE.out];rfl,below_trans hbw2 hb1⟩
   ·have e1:=Lib.hid (all_step (f:=id) (l:=bs) (k:=3) H.out (by rw[HBS.out];rfl) hq)
    have HQ:=Lib.hid hq;clear hq
    go_wp2_with fail
    refine(typesFine_any p _ (HO.out.below hbw2) (counts_short CC.out)).mono ?_;rw[HQ.out];rintro e w1 ⟨rfl,hb1⟩;go_wp2;go_roundw
    case rel=>exact⟨4,by omega,by go_num,e1.out,J1'.below hb1,J2'.below hb1,below_trans hbw2 hb1⟩
    case measure=>simp[intOf]
  ·have z0:=J2.cell 8 _ rfl
   have z1:=J2.cell 9 _ rfl;have J1':=J1.alloc (.cells #[.func (.func 100) #[] #[],.int .i64 1] 139);have J2':=J2.alloc (.cells #[.func (.func 100) #[] #[],.int .i64 1] 139);have y0:=J1'.cell 0 _ rfl;have y1:=J1'.cell 1 _ rfl;have y2:=J1'.cell 2 _ rfl;have y3:=J1'.cell 3 _ rfl;have y4:=J1'.cell 4 _ rfl;have y5:=J1'.cell 5 _ rfl;have y6:=J1'.cell 6 _ rfl;have y7:=J1'.cell 7 _ rfl;have y8:=J1'.cell 8 _ rfl;have y9:=J1'.cell 9 _ rfl;have y10:=J1'.cell 10 _ rfl;have y11:=J1'.cell 11 _ rfl;have y12:=J1'.cell 12 _ rfl;have hbw2:=hbw.alloc hbw.size (.cells #[.func (.func 100) #[] #[],.int .i64 1] 139);have hsz:=hbw.size;have G: ∀(j:Nat) (b:Bool),j<4→bs[j]?=some b→b=true:=fun j b hj hb=>H.out b (List.mem_of_getElem? (i:=j) (by rw[List.getElem?_take,if_pos hj];exact hb));have B0:=Lib.hid (G 0 (kindsB p) (by omega) (by rw[HBS.out];rfl));have B1:=Lib.hid (G 1 (rangesB p) (by omega) (by rw[HBS.out];rfl));have B2:=Lib.hid (G 2 (countsB p) (by omega) (by rw[HBS.out];rfl));have B3:=Lib.hid (G 3 (typesB p) (by omega) (by rw[HBS.out];rfl));have CC:=B2;clear G;cases hq:formB p
   ·have EE:=Lib.hid (HC.out.trans (by simp only[B0.out,B1.out,B2.out,B3.out,hq];rfl:_=(1:Int)))
    have HQ:=Lib.hid hq;clear hq
    go_wp2_with fail
    refine(form_any p _ (HO.out.below hbw2) (counts_short CC.out) HF.out).mono ?_;rw[HQ.out];rintro e w1 ⟨rfl,hb1⟩;have x0:=((Blk.new wr 139 #[.func (.func 100) #[] #[],.int .i64 1]).below hb1).cell 1 _ rfl;go_wp2;go_ret;exact⟨by rw[EE.out];rfl,below_trans hbw2 hb1⟩
   ·have e1:=Lib.hid (all_step (f:=id) (l:=bs) (k:=4) H.out (by rw[HBS.out];rfl) hq)
    have HQ:=Lib.hid hq;clear hq
    go_wp2_with fail
    refine(form_any p _ (HO.out.below hbw2) (counts_short CC.out) HF.out).mono ?_;rw[HQ.out];rintro e w1 ⟨rfl,hb1⟩;go_wp2;go_roundw
    case rel=>exact⟨5,by omega,by go_num,e1.out,J1'.below hb1,J2'.below hb1,below_trans hbw2 hb1⟩
    case measure=>simp[intOf]
  ·have hall:=H.out
   rw[HBS.out]at hall;have B0:kindsB p=true:=hall _ (List.mem_of_getElem? (i:=0) rfl);have B1:rangesB p=true:=hall _ (List.mem_of_getElem? (i:=1) rfl);have B2:countsB p=true:=hall _ (List.mem_of_getElem? (i:=2) rfl);have B3:typesB p=true:=hall _ (List.mem_of_getElem? (i:=3) rfl);have B4:formB p=true:=hall _ (List.mem_of_getElem? (i:=4) rfl);have EE:=Lib.hid (HC.out.trans (by simp only[B0,B1,B2,B3,B4];rfl:_=(0:Int)));clear hall B0 B1 B2 B3 B4;go_wp2;go_ret;exact⟨by rw[EE.out];rfl,hbw⟩
end Go.Proofs.YtjhbeecmdgglgaaGreatDoor
namespace Go.Proofs.YtjhbeecmdgglgaaGreatDoor
open Go.RowKit Go.Maps
def outG (t g:List Int):List Int:=g.map fun c=>t.getD c.toNat 0
def aggT (t:List Int) (a:Int×Int):Int:=if a.1=3∨a.1=4 then t.getD a.2.toNat 0 else 2
def outA (t:List Int) (l:List (Int×Int)):List Int:=l.map (aggT t)
def outP (p:Pl):List Int:=if p.grouped then outG (p.left++p.right) p.group++outA (p.left++p.right) p.aggs else p.left++p.right
def outL (p:Pl):List Int:=if checkP p=0 then outP p else[]
theorem check_ok {p:Pl}(h:checkP p=0):kindsB p=true∧rangesB p=true∧countsB p=true∧typesB p=true∧formB p=true:=by
 unfold checkP at h;cases h1:kindsB p<;>cases h2:rangesB p<;>cases h3:countsB p<;>cases h4:typesB p<;>cases h5:formB p<;>simp_all
theorem kinds_agg {p:Pl}(h:kindsB p=true)(hg:p.grouped=true): ∀a∈p.aggs,1≤a.1∧a.1≤4:=by
 unfold kindsB at h;rw[hg]at h;simp only[Bool.not_true,Bool.false_or,Bool.and_eq_true,allB,List.all_eq_true]at h;exact fun a ha=>btw_of (h.2.2 a ha)
theorem form_group {p:Pl}(h:formB p=true): ∀x∈p.group,0≤x∧x<(p.left++p.right).length:=by
 unfold formB at h;simp only[Bool.and_eq_true]at h;exact unl_range h.2.2.2.2.1
theorem form_aggs {p:Pl}(h:formB p=true): ∀x∈p.aggs,x.1≠1→0≤x.2∧x.2<(p.left++p.right).length:=by
 unfold formB at h;simp only[Bool.and_eq_true,allB,List.all_eq_true]at h;intro x hx hne;have:=h.2.2.2.2.2.2 x hx;unfold aggOk at this;rw[if_neg hne,Bool.and_eq_true]at this;have:=btw_of this.1;omega
theorem map_step {α β:Type}{f:α→β}{l:List α}{k:Nat}{x:α}(h:l[k]?=some x):(l.take (k+1)).map f=(l.take k).map f++[f x]:=by
 rw[List.take_add_one,h];simp
end Go.Proofs.YtjhbeecmdgglgaaGreatDoor
namespace Go.Proofs.YtjhbeecmdgglgaaGreatDoor
open Go.RowKit
theorem own_empty (W:World)(base:Nat)(h:base≤W.heap.size):(W.alloc (.cells #[] 3)).ownsRow base 3 1 (.slice (some ⟨W.heap.size,0,none⟩) 0 0) 0 []:=
 ⟨rfl,.inr ⟨_,0,#[],rfl,h,heap_alloc_new W _,Nat.le_refl _,by decide,rfl,rfl⟩⟩
set_option maxHeartbeats 4000000 in
set_option maxRecDepth 10000 in
theorem types_any (p:Pl)(w:World)(h:p.ok w)(hl:p.left.length≤1000)(hr:p.right.length≤1000):
 Calls Tryz.prog 62 #[.agg #[.int .i64 p.kind,.int .i64 p.mode,.int .i64 p.low,.int .i64 p.high,.int .i64 p.size,.int .i64 p.limit,p.vl,p.vr,p.vk,p.vq,.bool p.grouped,p.vg,p.va]] w fun e w'=> ∃v,e= .returned v∧Sl w' v (p.left++p.right).length (intCells (p.left++p.right))∧(∀k,v.ownBlock=some k→w.heap.size≤k)∧Below w.heap.size w w':=by
 have HL:=Lib.hid h.l;have HR:=Lib.hid h.r;clear h;obtain⟨kind,mode,low,high,size,limit,vl,vr,vk,vq,grouped,vg,va,left,right,lkeys,rkeys,group,aggs⟩:=p;simp only at HL HR hl hr⊢;obtain⟨A0,c0,rfl,n0,m0,-⟩:=id HL.out;obtain⟨A1,c1,rfl,n1,m1,-⟩:=id HR.out;unfold maxLen at m0 m1;have K1:=new_first w 25 #[.int .i64 kind,.int .i64 mode,.int .i64 low,.int .i64 high,.int .i64 size,.int .i64 limit,.slice A0 left.length c0,.slice A1 right.length c1,vk,vq,.bool grouped,vg,va] (.cells #[] 3);have O1:=own_empty (w.alloc (.cells #[.int .i64 kind,.int .i64 mode,.int .i64 low,.int .i64 high,.int .i64 size,.int .i64 limit,.slice A0 left.length c0,.slice A1 right.length c1,vk,vq,.bool grouped,vg,va] 25)) w.heap.size (by simp);rw[World.size_alloc]at O1;have hB:=below_trans (below_alloc w (.cells #[.int .i64 kind,.int .i64 mode,.int .i64 low,.int .i64 high,.int .i64 size,.int .i64 limit,.slice A0 left.length c0,.slice A1 right.length c1,vk,vq,.bool grouped,vg,va] 25)) (below_alloc _ (.cells #[] 3));have S1:=Lib.hid (HL.out.below hB).drew;have hB:=hB.drew;have y6:=K1.drew.cell 6 _ rfl;have y7:=K1.drew.cell 7 _ rfl;have L1:=Lib.hid (show(intCells left).length=left.length*1 from by rw[intCells_len];omega);have L2:=Lib.hid (show(intCells right).length=right.length*1 from by rw[intCells_len];omega);have B1:0+left.length≤maxLen:=by unfold maxLen;omega
 have B2:(0+left.length)*8≤140737488355328:=by omega
 have B3:0+left.length+right.length≤maxLen:=by unfold maxLen;omega
 have B4:(0+left.length+right.length)*8≤140737488355328:=by omega
 have HB1:=Lib.hid B1;have HB2:=Lib.hid B2;have HB3:=Lib.hid B3;have HB4:=Lib.hid B4;have HO1:=Lib.hid (show((w.alloc (.cells #[.int .i64 kind,.int .i64 mode,.int .i64 low,.int .i64 high,.int .i64 size,.int .i64 limit,.slice A0 left.length c0,.slice A1 right.length c1,vk,vq,.bool grouped,vg,va] 25)).alloc (.cells #[] 3)).drew.ownsRow w.heap.size 3 1 (.slice (some ⟨w.heap.size+1,0,none⟩) 0 0) 0 []from O1);have HK1:=Lib.hid K1.drew;clear B1 B2 B3 B4 O1 K1;go_enter Tryz.func62,Tryz.ntmps62
 go_wp2_with fail
 go_region_law
  ((first
    |(refine step_app (by rfl) _ _ 22 (by rfl) w.heap.size 3 1 8 Tryz.underlying22 intI (.slice (some ⟨w.heap.size+1,0,none⟩) 0 0) 0 _ (by rfl) HO1.out _ left.length (intCells left) (by rfl) S1.out L1.out (intCells_one left) HB1.out HB2.out hB.size ?_
      intro v1 w1 hown1 hgrow hat;have hb1:=below_grown hB hgrow (own_ge HO1.out);have T2:=HR.out.below hb1;have y7:=(HK1.out.grown hgrow (fun e=>by simp[Value.ownBlock]at e)).cell 7 _ rfl)
    |(refine step_app (by rfl) _ _ 22 (by rfl) w.heap.size 3 1 8 Tryz.underlying22 intI v1 (0+left.length) _ (by rfl) hown1 _ right.length (intCells right) (by rfl) T2 L2.out (intCells_one right) HB3.out HB4.out hb1.size ?_
      intro v2 w2 hown2 hgrow2 hat2)))
 all_goals
  have S3:Hid (Sl w2 v2 (left++right).length (intCells (left++right))):=Lib.hid (by
   have:=Sl.of_own hown2;have e:0+left.length+right.length=(left++right).length:=by rw[List.length_append];omega
   rw[List.nil_append,←intCells_app,e]at this;exact this)
  have O3:=Lib.hid (own_ge hown2);have B3:=below_grown hb1 hgrow2 (own_ge hown1);clear hown1 hown2 hgrow hgrow2;go_wp2;go_ret;exact⟨_,rfl,S3.out,O3.out,B3⟩
end Go.Proofs.YtjhbeecmdgglgaaGreatDoor
namespace Go.Proofs.YtjhbeecmdgglgaaGreatDoor
open Go.RowKit Go.Maps
end Go.Proofs.YtjhbeecmdgglgaaGreatDoor
namespace Go.Proofs.YtjhbeecmdgglgaaGreatDoor
open Go.RowKit
theorem valJ:EInfo Tryz.prog 68 3 32:=by
 have h:(Tryz.prog.info? 68).map (fun i=>(i.zero,i.size,i.bytes))=some (some (.agg #[.int .i64 0,.int .i64 0,.string ⟨#[]⟩]),3,32):=by kernel_rfl
 obtain⟨i,hi,h1,h2,h3⟩:=info_parts h;exact⟨i,_,hi,h1,h2,h3,rfl,by omega⟩
theorem val_cell (x:Val): ∀u∈x.cells,u.oneCell'=true:=by
 intro u hu;simp[Val.cells]at hu;rcases hu with rfl|rfl|rfl<;>rfl
theorem rowCells_len (l:List Val):(rowCells l).length=l.length*3:=flat_len Val.cells_len l
theorem rowCells_one (l:List Val): ∀u∈rowCells l,u.oneCell'=true:=by
 intro u hu;obtain⟨x,-,hx⟩:=List.mem_flatMap.1 hu;exact val_cell x u hx
theorem own_emptyT (W:World)(base:Nat)(t:TypeId)(size:Nat)(h:base≤W.heap.size):(W.alloc (.cells #[] t)).ownsRow base t size (.slice (some ⟨W.heap.size,0,none⟩) 0 0) 0 []:=
 ⟨by simp,.inr ⟨_,0,#[],rfl,h,heap_alloc_new W _,Nat.le_refl _,by decide,by simp,by simp⟩⟩
theorem sl_grown {w w':World}{v:Value}{n:Nat}{cs:List Value}{row:Option Nat}(h:Sl w v n cs)(hg:w.grownBy w' row)(hr: ∀k,v.ownBlock=some k→row≠some k):Sl w' v n cs:=by
 obtain⟨A,c,rfl,h1,h2,h0,h3⟩:=h;refine⟨A,c,rfl,h1,h2,h0,fun hne=> ?_⟩;obtain⟨b,off,rfl,hc⟩:=h3 hne;refine⟨b,off,rfl,fun j u hj=> ?_⟩;have hcc:=hc j u hj;have hlt:=World.block_lt_of_cell? w _ hcc;rw[World.cell?_of_block (hg.block b hlt (fun e=>hr b rfl e.symm))];exact hcc
theorem own_prefix {w:World}{base:Nat}{e:TypeId}{size g n cap k:Nat}{xs:List Value}(h:w.ownsRow base e size (.slice (some ⟨g,0,none⟩) n cap) n xs)(hk:k≤n):w.ownsRow base e size (.slice (some ⟨g,0,none⟩) k cap) k (xs.take (k*size)):=by
 have hx:=h.1;have hks:k*size≤n*size:=Nat.mul_le_mul_right _ hk;refine⟨by rw[List.length_take,hx];omega,?_⟩;rcases h.2 with⟨h',-⟩|⟨g',cap',cur,h',hb,hg,hn,hc,hsz,ht⟩
 ·cases h'
 ·injection h' with e1 e2 e3
  injection e1 with e1;injection e1 with e1;subst e1 e3;refine .inr ⟨g,cap,cur,rfl,hb,hg,by omega,hc,hsz,?_⟩;rw[←ht,List.take_take,Nat.min_eq_left hks]
theorem run_copy_wide {P:Program}(w:World)(dT sT ty elem:TypeId)(g o dLen dCap:Nat)(a:Addr)(sLen sCap size:Nat)(cur:Array Value)(t:TypeId)(cs:List Value)
 (hu:P.underlying dT=some (.slice elem)) (hs:(P.info? elem).map (·.size)=some size)
 (hg:w.heap[g]?=some (.cells cur t (0,0))) (hn:cs.length=Nat.min sLen dLen*size)
 (hsrc: ∀j v,cs[j]?=some v→w.cell? (a.add j)=some v) (hfit:o+cs.length≤cur.size) (h1: ∀v∈cs,v.oneCell'=true):
 (Builtin.copy_ #[dT,sT] ty #[.slice (some ⟨g,o,none⟩) dLen dCap,.slice (some a) sLen sCap]).run P w=
  .ok (goInt (Nat.min sLen dLen)) (w.setRow g (cur.toList.take o++cs++cur.toList.drop (o+cs.length)).toArray):=by
 have hl:=run_loadCells_list (P:=P) w a cs hsrc;have hst:=run_storeCells_at P g o t cs 0 cur w hg (by simpa using hfit) h1;cases hq:P.info? elem with
 |none=>simp[hq]at hs
 |some i=>
  have hi:i.size=size:=by simpa[hq]using hs
  simp[Builtin.copy_,run_underlying hu,Builtin.lenOf,Builtin.firstCells,sizeOf,typeInfo,hq,hi,←hn,hl,hst]
theorem flat_take {α:Type}{f:α→List Value}{size:Nat}(hf: ∀a,(f a).length=size)(l:List α)(k:Nat):(l.flatMap f).take (k*size)=(l.take k).flatMap f:=by
 induction l generalizing k with
 |nil=>simp
 |cons a l ih=>
  cases k with
  |zero=>simp
  |succ k=>rw[List.flatMap_cons,List.take_succ_cons,List.flatMap_cons,List.take_append,hf a,List.take_of_length_le (by rw[hf a,Nat.add_mul];omega),←ih k];congr 2;rw[Nat.add_mul];omega
theorem flat_drop {α:Type}{f:α→List Value}{size:Nat}(hf: ∀a,(f a).length=size)(l:List α)(k:Nat):(l.flatMap f).drop (k*size)=(l.drop k).flatMap f:=by
 induction l generalizing k with
 |nil=>simp
 |cons a l ih=>
  cases k with
  |zero=>simp
  |succ k=>rw[List.flatMap_cons,List.drop_succ_cons,List.drop_append,hf a,List.drop_of_length_le (by rw[hf a,Nat.add_mul];omega),List.nil_append,←ih k];congr 1;rw[Nat.add_mul];omega
theorem grown_of_below {w w':World}(h:Below w.heap.size w w')(row:Option Nat):w.grownBy w' row:=⟨h.os,h.tape,h.output,h.size,fun k hk _=>h.block k hk⟩
theorem grown_trans {a b c:World}{row:Option Nat}(h:a.grownBy b row)(k:b.grownBy c row):a.grownBy c row:=⟨k.os.trans h.os,k.tape.trans h.tape,k.output.trans h.output,Nat.le_trans h.size k.size,fun j hj hn=>(k.block j (Nat.lt_of_lt_of_le hj h.size) hn).trans (h.block j hj hn)⟩
theorem grown_new {a b c:World}{row row':Option Nat}(h:a.grownBy b row)(k:b.grownBy c row')(hr: ∀j,row'=some j→row=some j∨a.heap.size≤j):a.grownBy c row:=⟨k.os.trans h.os,k.tape.trans h.tape,k.output.trans h.output,Nat.le_trans h.size k.size,fun j hj hn=>(k.block j (Nat.lt_of_lt_of_le hj h.size) (fun e=>by
 rcases hr j e.symm with h1|h1
 ·exact hn h1.symm
 ·omega)).trans (h.block j hj hn)⟩
theorem drew_grown {w w':World}{row:Option Nat}(h:w.drew.grownBy w' row):w.grownBy w' row:=⟨h.os,h.tape,h.output,h.size,h.block⟩
theorem grown_drew {w w':World}{row:Option Nat}(h:w.grownBy w' row):w.grownBy w'.drew row:=⟨h.os,h.tape,h.output,h.size,h.block⟩
theorem run_copy_zero {P:Program}(w:World)(dT sT ty elem:TypeId)(d s:Option Addr)(dLen dCap sLen sCap:Nat)
 (hu:P.underlying dT=some (.slice elem)) (hs:((P.info? elem).map (·.size)).isSome=true) (hn:Nat.min sLen dLen=0):
 (Builtin.copy_ #[dT,sT] ty #[.slice d dLen dCap,.slice s sLen sCap]).run P w= .ok (goInt 0) w:=by
 cases hq:P.info? elem with
 |none=>simp[hq]at hs
 |some i=>cases d<;>cases s<;>simp[Builtin.copy_,run_underlying hu,Builtin.lenOf,Builtin.firstCells,sizeOf,typeInfo,hq,hn,storeCells,loadCells,loadCellsFrom]
theorem step_copy_run {P:Program}{ops:Array Oper}{o:Oper}{a:Act}{w w':World}{K:Act→World→Prop}{Q:Exit→Act→World→Prop}{E:Prop}{r:Value}(hgd:o.guard=none)(d s:Operand)(dT sT:TypeId)
 (ho:o.op= .call {callee:= .builtin .copy,args:= #[d,s],argTypes:= #[dT,sT]}) (dv sv:Value) (hd:a.eval d=dv) (hs:a.eval s=sv) (hrun:(Builtin.copy_ #[dT,sT] o.type #[dv,sv]).run P w= .ok r w')
 (h:K (a.put o.dst r) w'):if Region.wanted o (yielded ops a.tmps)=true then Oper.wp P o a w K Q else E:=by
 rw[if_pos (by simp[Region.wanted,hgd])];unfold Oper.wp;simp[execOp,ho,resolve,invoke,builtin,hd,hs,hrun,Result.andThen];exact h
theorem sl_grown2 {w w':World}{v:Value}{n:Nat}{cs:List Value}{row:Option Nat}(h:Sl w v n cs)(hg:w.grownBy w' row)(hr:cs≠[]→ ∀k,v.ownBlock=some k→row≠some k):Sl w' v n cs:=by
 by_cases hne:cs=[]
 ·obtain⟨A,c,rfl,h1,h2,h0,h3⟩:=h
  exact⟨A,c,rfl,h1,h2,h0,fun h=>absurd hne h⟩
 ·exact sl_grown h hg (hr hne)
theorem row_block {w:World}{v:Value}{r:List Val}(h:Sl w v r.length (rowCells r))(hne:rowCells r≠[]){k:Nat}(hk:v.ownBlock=some k):k<w.heap.size:=by
 obtain⟨A,c,rfl,-,-,-,h3⟩:=h;obtain⟨b,off,rfl,hc⟩:=h3 hne;have e:b=k:=by simpa[Value.ownBlock]using hk
 subst e;obtain⟨x,l,hx⟩:=List.exists_cons_of_ne_nil hne;exact World.block_lt_of_cell? w _ (hc 0 x (by rw[hx];rfl))
theorem one_at {w:World}{cs:List Value}{v:Value}{m:Nat}(h:Sl w v m cs){A:Option Addr}{n c:Nat}(hv:v= .slice A n c){k:Nat}{u:Value}(hk:cs[k]?=some u):
 ∃b off,A=some ⟨b,off,none⟩∧b<w.heap.size∧ ∀w',Below w.heap.size w w'→w'.cell? ⟨b,off+k,none⟩=some u:=by
 obtain⟨A',c',hv',h1,h2,-,h3⟩:=h;rw[hv]at hv';injection hv' with e1 e2 e3;subst e1;obtain⟨b,off,hA,hc⟩:=h3 (by intro h0;rw[h0]at hk;simp at hk);have c1:=hc _ _ hk;exact⟨b,off,hA,World.block_lt_of_cell? w _ c1,fun w' hb=>cell_below hb c1⟩
theorem one_cellR (W:World)(t:TypeId)(u:Value):Sl (W.alloc (.cells #[u] t)) (.slice (some ⟨W.heap.size,0,none⟩) 1 1) 1 [u]:=Sl.block (Blk.new W t #[u]) 1 1 (Nat.le_refl _) (by decide)
theorem sl_set {w:World}{v:Value}{n:Nat}{cs:List Value}(h:Sl w v n cs){p:Addr}(hp:cs≠[]→ ∀k,v.ownBlock=some k→k≠p.block)(u:Value):Sl (w.setCell p u) v n cs:=by
 obtain⟨A,c,rfl,h1,h2,h0,h3⟩:=h;refine⟨A,c,rfl,h1,h2,h0,fun hne=> ?_⟩;obtain⟨b,off,rfl,hc⟩:=h3 hne;refine⟨b,off,rfl,fun j x hj=> ?_⟩;have hcc:=hc j x hj;rw[World.cell?_of_block (Below.heap_setCell w p u b (hp hne b rfl))];exact hcc
theorem nil_yes (W:World)(n c:Nat):(binOp .eql 43 (.slice none n c) (.slice none 0 0)).run Tryz.prog W= .ok (.bool true) W:=by kernel_rfl
theorem nil_no (W:World)(p:Addr)(n c:Nat):(binOp .eql 43 (.slice (some p) n c) (.slice none 0 0)).run Tryz.prog W= .ok (.bool false) W:=by kernel_rfl
end Go.Proofs.YtjhbeecmdgglgaaGreatDoor
namespace Go.Proofs.YtjhbeecmdgglgaaGreatDoor
open Go.RowKit Go.Maps
def sideT (p:Pl) (side:Int):List Int:=if side=2 then p.right else p.left
def fitOne (q:Int×Val):Bool:=q.2.k==0||q.2.k==q.1
def rowE (p:Pl) (side:Int) (r:List Val):Int:=
 if side=1∨side=2 then if r.length=(sideT p side).length then if firstNZ (r.map checkV)=0 then if allB fitOne ((sideT p side).zip r)then 0 else 5 else firstNZ (r.map checkV)else 2 else 4
def rowR (p:Pl) (side:Int) (r:List Val):Int:=if checkP p=0 then rowE p side r else checkP p
theorem side_two (p:Pl):sideT p 2=p.right:=if_pos rfl
theorem side_one (p:Pl):sideT p 1=p.left:=if_neg (by decide)
set_option maxHeartbeats 8000000 in
set_option maxRecDepth 10000 in
theorem row_any (p:Pl)(side:Int)(v:Value)(r:List Val)(w:World)(h:p.ok w)(hf:p.fit)(hr:Sl w v r.length (rowCells r))(hs:Small r):
 Calls Tryz.prog 85 #[.agg #[.int .i64 p.kind,.int .i64 p.mode,.int .i64 p.low,.int .i64 p.high,.int .i64 p.size,.int .i64 p.limit,p.vl,p.vr,p.vk,p.vq,.bool p.grouped,p.vg,p.va],.int .i64 side,v] w fun e w'=>e= .returned (.int .i64 (rowR p side r))∧Below w.heap.size w w':=by
 have HC:=Lib.hid (fun w' (hb:Below w.heap.size w w')=>check_any p w' (h.below hb) hf);have HE:Hid (rowR p side r=if checkP p=0 then(if side=1∨side=2 then if r.length=(sideT p side).length then if firstNZ (r.map checkV)=0 then if allB fitOne ((sideT p side).zip r)then 0 else 5 else firstNZ (r.map checkV)else 2 else 4)else checkP p):=Lib.hid rfl;have HOK:=Lib.hid (fun hz:checkP p=0=>counts_short (check_ok hz).2.2.1);have HL:=Lib.hid h.l;have HR:=Lib.hid h.r;have HV:=Lib.hid hr;have HSM:=Lib.hid hs;clear h hf hs;generalize rowR p side r=R at HE⊢;generalize checkP p=q at HC HE HOK⊢;have HS:Hid (side=1→sideT p side=p.left):=Lib.hid (by rintro rfl;exact side_one p);have HS':Hid (side=2→sideT p side=p.right):=Lib.hid (by rintro rfl;exact side_two p);generalize sideT p side=t at HE HS HS';obtain⟨kind,mode,low,high,size,limit,vl,vr,vk,vq,grouped,vg,va,left,right,lkeys,rkeys,group,aggs⟩:=p;simp only at HC HE HOK HL HR HS HS'⊢;obtain⟨A0,c0,rfl,n0,m0,-⟩:=id HL.out;obtain⟨A1,c1,rfl,n1,m1,-⟩:=id HR.out;obtain⟨A,c,rfl,n2,m2,-⟩:=hr;unfold maxLen at m0 m1 m2;have hB:=below_alloc w (.cells #[.int .i64 kind,.int .i64 mode,.int .i64 low,.int .i64 high,.int .i64 size,.int .i64 limit,.slice A0 left.length c0,.slice A1 right.length c1,vk,vq,.bool grouped,vg,va] 25);have K1:=Blk.new w 25 #[.int .i64 kind,.int .i64 mode,.int .i64 low,.int .i64 high,.int .i64 size,.int .i64 limit,.slice A0 left.length c0,.slice A1 right.length c1,vk,vq,.bool grouped,vg,va];by_cases hq:q=0
 ·subst hq
  obtain⟨l1,l2,r1,r2,-⟩:=HOK.out rfl;simp only at l1 l2 r1 r2;have HE2:=Lib.hid (HE.out.trans (if_pos rfl));clear HE HOK;by_cases hs1:side=1
  ·have b1:=beqT hs1
   have HE3:=Lib.hid (HE2.out.trans (if_pos (.inl hs1)));obtain rfl:=HS.out hs1;have HTT:=HL;clear HE2 HS HS' hs1;go_enter Tryz.func85,Tryz.ntmps85
   go_wp2_with fail
   refine(HC.out _ hB).mono ?_;rintro e w1 ⟨rfl,hb1⟩;have B1:=below_trans hB hb1;have K2:=K1.below hb1;clear K1 hB hb1 HC;have y6:=K2.cell 6 _ rfl;have y7:=K2.cell 7 _ rfl;by_cases hlen:r.length=t.length
   ·have HE4:=Lib.hid (HE3.out.trans (if_pos hlen))
    have b2:((r.length:Int)==(t.length:Int))=true:=by simp[hlen]
    have b2':=bne_of b2;simp only[Bool.not_true]at b2';have HLE:=Lib.hid hlen;have hle:r.length≤t.length:=by omega
    clear HE3 hlen
    go_wp2_with fail
    go_loopw[10,11,35] (fun _ _ i wr=> ∃k:Nat,k≤r.length∧i= .int .i64 k∧Hid (∀x∈(r.map checkV).take k,x=0)∧Below w1.heap.size w1 wr) (fun _ _ i _=>r.length-(intOf i).toNat)
    case atStart=>exact⟨0,by omega,rfl,by simp[Hid],Below.refl _ _⟩
    case round=>
     obtain⟨k,hk,rfl,H,hbw⟩:=hrel;have hBw:=B1.trans (hbw.mono B1.size);by_cases hlt:k<r.length
     ·have hx:=List.getElem?_eq_getElem (l:=r) hlt
      generalize r[k]=x at hx;obtain⟨g,off,rfl,-,hc⟩:=val_at HV.out rfl hx;obtain⟨d1,d2,d3⟩:=hc _ hBw;have hxs:=HSM.out x (List.mem_of_getElem? hx);have HG:=Lib.hid (show(r.map checkV)[k]?=some (checkV x)from by rw[List.getElem?_map,hx];rfl);have hbw2:=hbw.alloc hbw.size (.cells #[.int .i64 x.k,.int .i64 x.n,.string x.s] 68);clear hx hc;by_cases hq:checkV x=0
      ·have HQ:=Lib.hid hq
       have hq1:=beqT hq;have hq2:=bne_of hq1;simp only[Bool.not_true]at hq2;have HZ:=Lib.hid (zeros_step H.out HG.out hq);clear hq
       go_wp2_with (go_at_call 102;refine(check_val x _ hxs).mono ?_;rintro e w1 ⟨rfl,hb1⟩)
       go_roundw
       case rel=>exact⟨k+1,by omega,by go_num,HZ.out,hbw2.trans (hb1.mono hbw2.size)⟩
       case measure=>simp[intOf];omega
      ·have e1:=Lib.hid (firstNZ_hit H.out HG.out hq)
       have hq1:=beqF hq;have hq2:=bne_of hq1;simp only[Bool.not_false]at hq2;have EE:Hid (R=checkV x):=Lib.hid (by rw[HE4.out,e1.out,if_neg hq]);clear hq
       go_wp2_with (go_at_call 102;refine(check_val x _ hxs).mono ?_;rintro e w1 ⟨rfl,hb1⟩)
       go_ret;exact⟨by rw[EE.out];rfl,(hBw.alloc hBw.size _).trans (hb1.mono (by have:=hBw.size;simp;omega))⟩
     ·obtain rfl:k=r.length:=by omega
      have e1:=Lib.hid (firstNZ_none (l:=r.map checkV) (by have:=H.out;rwa[List.take_of_length_le (by simp)]at this));have HE5:Hid (R=if allB fitOne (t.zip r)then 0 else 5):=Lib.hid (by rw[HE4.out,e1.out];rfl);clear HE4 e1 H
      go_wp2_with fail
      go_loopw[12,13,47] (fun _ _ i wr=> ∃k:Nat,k≤r.length∧i= .int .i64 k∧Hid (∀x∈(t.zip r).take k,fitOne x=true)∧Below w1.heap.size w1 wr) (fun _ _ i _=>r.length-(intOf i).toNat)
      case atStart=>exact⟨0,by omega,rfl,by simp[Hid],hbw⟩
      case round=>
       clear hbw hBw;obtain⟨k,hk,rfl,H,hbw⟩:=hrel;have hBw:=B1.trans (hbw.mono B1.size);by_cases hlt:k<r.length
       ·have hx:=List.getElem?_eq_getElem (l:=r) hlt
        generalize r[k]=x at hx;obtain⟨g,off,rfl,-,hc⟩:=val_at HV.out rfl hx;obtain⟨d1,d2,d3⟩:=hc _ hBw;have hlt2:k<t.length:=by omega
        obtain⟨bt,ot,hAt,-,hct⟩:=int_at HTT.out rfl hlt2;have hbw2:=hbw.alloc hbw.size (.cells #[.int .i64 x.k,.int .i64 x.n,.string x.s] 68);have hBw2:=B1.trans (hbw2.mono B1.size);have d4:=hct _ hBw2;have gt:t[k]?=some (t.getD k 0):=by simp[hlt2]
        generalize t.getD k 0=y at d4 gt;have HG:=Lib.hid (show(t.zip r)[k]?=some (y,x)from by rw[List.getElem?_zip_eq_some];exact⟨gt,hx⟩);have HFO:=Lib.hid (show fitOne (y,x)=(x.k==0||x.k==y)from rfl);clear hx hc hct gt;subst hAt;have k0:(0:Int)≤(k:Int):=by omega
        have k1:(k:Int)<(t.length:Int):=by omega
        cases hq:(x.k==0)
        ·have hq2:=bne_of hq
         simp only[Bool.not_false]at hq2;cases hz:(x.k==y)
         ·have hz2:=bne_of hz
          simp only[Bool.not_false]at hz2;have e1:=Lib.hid (all_no (f:=fitOne) HG.out (by rw[HFO.out,hq,hz];rfl));have EE:Hid (R=5):=Lib.hid (by rw[HE5.out,e1.out];rfl)
          go_wp2_with fail
          go_quiet (fail)
          go_wp2;go_ret;exact⟨ret_int (by rw[EE.out]),below_drewN hBw2 _⟩
         ·have hz2:=bne_of hz
          simp only[Bool.not_true]at hz2;have e1:=Lib.hid (all_step (f:=fitOne) H.out HG.out (by rw[HFO.out,hz,Bool.or_true]))
          go_wp2_with fail
          go_quiet (fail)
          go_wp2;go_roundw
          case rel=>exact⟨k+1,by omega,by go_num,e1.out,below_drewN hbw2 _⟩
          case measure=>simp[intOf];omega
        ·have hq2:=bne_of hq
         simp only[Bool.not_true]at hq2;have e1:=Lib.hid (all_step (f:=fitOne) H.out HG.out (by rw[HFO.out,hq,Bool.true_or]))
         go_wp2_with fail
         go_quiet (fail)
         go_wp2;go_roundw
         case rel=>exact⟨k+1,by omega,by go_num,e1.out,below_drewN hbw2 _⟩
         case measure=>simp[intOf];omega
       ·obtain rfl:k=r.length:=by omega
        have e1:=Lib.hid (show allB fitOne (t.zip r)=true from all_yes (by
         have hzl:(t.zip r).length=r.length:=by rw[List.length_zip];omega
         rw[hzl];exact H.out))
        have EE:Hid (R=0):=Lib.hid (by rw[HE5.out,e1.out];rfl);go_wp2;go_ret;exact⟨ret_int (by rw[EE.out]),hBw⟩
   ·have EE:Hid (R=2):=Lib.hid (HE3.out.trans (if_neg hlen))
    have b2:((r.length:Int)==(t.length:Int))=false:=by simp;omega
    have b2':=bne_of b2;simp only[Bool.not_false]at b2';clear HE3 hlen;go_wp2;go_ret;exact⟨ret_int (by rw[EE.out]),B1⟩
  ·by_cases hs2:side=2
   ·have b1:=beqF hs1
    have b1b:=beqT hs2;have HE3:=Lib.hid (HE2.out.trans (if_pos (.inr hs2)));obtain rfl:=HS'.out hs2;have HTT:=HR;clear HE2 HS HS' hs1 hs2;go_enter Tryz.func85,Tryz.ntmps85
    go_wp2_with fail
    refine(HC.out _ hB).mono ?_;rintro e w1 ⟨rfl,hb1⟩;have B1:=below_trans hB hb1;have K2:=K1.below hb1;clear K1 hB hb1 HC;have y6:=K2.cell 6 _ rfl;have y7:=K2.cell 7 _ rfl;by_cases hlen:r.length=t.length
    ·have HE4:=Lib.hid (HE3.out.trans (if_pos hlen))
     have b2:((r.length:Int)==(t.length:Int))=true:=by simp[hlen]
     have b2':=bne_of b2;simp only[Bool.not_true]at b2';have HLE:=Lib.hid hlen;have hle:r.length≤t.length:=by omega
     clear HE3 hlen
     go_wp2_with fail
     go_loopw[10,11,35] (fun _ _ i wr=> ∃k:Nat,k≤r.length∧i= .int .i64 k∧Hid (∀x∈(r.map checkV).take k,x=0)∧Below w1.heap.size w1 wr) (fun _ _ i _=>r.length-(intOf i).toNat)
     case atStart=>exact⟨0,by omega,rfl,by simp[Hid],Below.refl _ _⟩
     case round=>
      obtain⟨k,hk,rfl,H,hbw⟩:=hrel;have hBw:=B1.trans (hbw.mono B1.size);by_cases hlt:k<r.length
      ·have hx:=List.getElem?_eq_getElem (l:=r) hlt
       generalize r[k]=x at hx;obtain⟨g,off,rfl,-,hc⟩:=val_at HV.out rfl hx;obtain⟨d1,d2,d3⟩:=hc _ hBw;have hxs:=HSM.out x (List.mem_of_getElem? hx);have HG:=Lib.hid (show(r.map checkV)[k]?=some (checkV x)from by rw[List.getElem?_map,hx];rfl);have hbw2:=hbw.alloc hbw.size (.cells #[.int .i64 x.k,.int .i64 x.n,.string x.s] 68);clear hx hc;by_cases hq:checkV x=0
       ·have HQ:=Lib.hid hq
        have hq1:=beqT hq;have hq2:=bne_of hq1;simp only[Bool.not_true]at hq2;have HZ:=Lib.hid (zeros_step H.out HG.out hq);clear hq
        go_wp2_with (go_at_call 102;refine(check_val x _ hxs).mono ?_;rintro e w1 ⟨rfl,hb1⟩)
        go_roundw
        case rel=>exact⟨k+1,by omega,by go_num,HZ.out,hbw2.trans (hb1.mono hbw2.size)⟩
        case measure=>simp[intOf];omega
       ·have e1:=Lib.hid (firstNZ_hit H.out HG.out hq)
        have hq1:=beqF hq;have hq2:=bne_of hq1;simp only[Bool.not_false]at hq2;have EE:Hid (R=checkV x):=Lib.hid (by rw[HE4.out,e1.out,if_neg hq]);clear hq
        go_wp2_with (go_at_call 102;refine(check_val x _ hxs).mono ?_;rintro e w1 ⟨rfl,hb1⟩)
        go_ret;exact⟨by rw[EE.out];rfl,(hBw.alloc hBw.size _).trans (hb1.mono (by have:=hBw.size;simp;omega))⟩
      ·obtain rfl:k=r.length:=by omega
       have e1:=Lib.hid (firstNZ_none (l:=r.map checkV) (by have:=H.out;rwa[List.take_of_length_le (by simp)]at this));have HE5:Hid (R=if allB fitOne (t.zip r)then 0 else 5):=Lib.hid (by rw[HE4.out,e1.out];rfl);clear HE4 e1 H
       go_wp2_with fail
       go_loopw[12,13,47] (fun _ _ i wr=> ∃k:Nat,k≤r.length∧i= .int .i64 k∧Hid (∀x∈(t.zip r).take k,fitOne x=true)∧Below w1.heap.size w1 wr) (fun _ _ i _=>r.length-(intOf i).toNat)
       case atStart=>exact⟨0,by omega,rfl,by simp[Hid],hbw⟩
       case round=>
        clear hbw hBw;obtain⟨k,hk,rfl,H,hbw⟩:=hrel;have hBw:=B1.trans (hbw.mono B1.size);by_cases hlt:k<r.length
        ·have hx:=List.getElem?_eq_getElem (l:=r) hlt
         generalize r[k]=x at hx;obtain⟨g,off,rfl,-,hc⟩:=val_at HV.out rfl hx;obtain⟨d1,d2,d3⟩:=hc _ hBw;have hlt2:k<t.length:=by omega
         obtain⟨bt,ot,hAt,-,hct⟩:=int_at HTT.out rfl hlt2;have hbw2:=hbw.alloc hbw.size (.cells #[.int .i64 x.k,.int .i64 x.n,.string x.s] 68);have hBw2:=B1.trans (hbw2.mono B1.size);have d4:=hct _ hBw2;have gt:t[k]?=some (t.getD k 0):=by simp[hlt2]
         generalize t.getD k 0=y at d4 gt;have HG:=Lib.hid (show(t.zip r)[k]?=some (y,x)from by rw[List.getElem?_zip_eq_some];exact⟨gt,hx⟩);have HFO:=Lib.hid (show fitOne (y,x)=(x.k==0||x.k==y)from rfl);clear hx hc hct gt;subst hAt;have k0:(0:Int)≤(k:Int):=by omega
         have k1:(k:Int)<(t.length:Int):=by omega
         cases hq:(x.k==0)
         ·have hq2:=bne_of hq
          simp only[Bool.not_false]at hq2;cases hz:(x.k==y)
          ·have hz2:=bne_of hz
           simp only[Bool.not_false]at hz2;have e1:=Lib.hid (all_no (f:=fitOne) HG.out (by rw[HFO.out,hq,hz];rfl));have EE:Hid (R=5):=Lib.hid (by rw[HE5.out,e1.out];rfl)
           go_wp2_with fail
           go_quiet (fail)
           go_wp2;go_ret;exact⟨ret_int (by rw[EE.out]),below_drewN hBw2 _⟩
          ·have hz2:=bne_of hz
           simp only[Bool.not_true]at hz2;have e1:=Lib.hid (all_step (f:=fitOne) H.out HG.out (by rw[HFO.out,hz,Bool.or_true]))
           go_wp2_with fail
           go_quiet (fail)
           go_wp2;go_roundw
           case rel=>exact⟨k+1,by omega,by go_num,e1.out,below_drewN hbw2 _⟩
           case measure=>simp[intOf];omega
         ·have hq2:=bne_of hq
          simp only[Bool.not_true]at hq2;have e1:=Lib.hid (all_step (f:=fitOne) H.out HG.out (by rw[HFO.out,hq,Bool.true_or]))
          go_wp2_with fail
          go_quiet (fail)
          go_wp2;go_roundw
          case rel=>exact⟨k+1,by omega,by go_num,e1.out,below_drewN hbw2 _⟩
          case measure=>simp[intOf];omega
        ·obtain rfl:k=r.length:=by omega
         have e1:=Lib.hid (show allB fitOne (t.zip r)=true from all_yes (by
          have hzl:(t.zip r).length=r.length:=by rw[List.length_zip];omega
          rw[hzl];exact H.out))
         have EE:Hid (R=0):=Lib.hid (by rw[HE5.out,e1.out];rfl);go_wp2;go_ret;exact⟨ret_int (by rw[EE.out]),hBw⟩
    ·have EE:Hid (R=2):=Lib.hid (HE3.out.trans (if_neg hlen))
     have b2:((r.length:Int)==(t.length:Int))=false:=by simp;omega
     have b2':=bne_of b2;simp only[Bool.not_false]at b2';clear HE3 hlen;go_wp2;go_ret;exact⟨ret_int (by rw[EE.out]),B1⟩
   ·have b1:=beqF hs1
    have b1b:=beqF hs2;have EE:Hid (R=4):=Lib.hid (HE2.out.trans (if_neg (by rintro(h|h);exact hs1 h;exact hs2 h)));clear HE2 HS HS' hs1 hs2;go_enter Tryz.func85,Tryz.ntmps85
    go_wp2_with fail
    refine(HC.out _ hB).mono ?_;rintro e w1 ⟨rfl,hb1⟩;have y6:=(K1.below hb1).cell 6 _ rfl;go_wp2;go_ret;exact⟨ret_int (by rw[EE.out]),below_trans hB hb1⟩
 ·have HE2:=Lib.hid (HE.out.trans (if_neg hq))
  have hb:=beqF hq;have hb':=bne_of hb;simp only[Bool.not_false]at hb';clear HE HOK hq;go_enter Tryz.func85,Tryz.ntmps85
  go_wp2_with fail
  refine(HC.out _ hB).mono ?_;rintro e w1 ⟨rfl,hb1⟩;go_wp2;go_ret;exact⟨ret_int (by rw[HE2.out]),below_trans hB hb1⟩
end Go.Proofs.YtjhbeecmdgglgaaGreatDoor
