/-Plans: Check. Plans: Out, and the reference's OutOf. Plans: Row, and the reference's RowError. Plans: the reference's RowError. Plans: KeyOf, and the  -/
import Derived.Test.YtjhbeecmdgglgaaGreatDoorGrpW10
import Derived.Laws.EntriesVeiled
import Derived.Test.YtjhbeecmdgglgaaGreatDoorGrpW7
set_option linter.unusedSimpArgs false
set_option linter.unusedVariables false
namespace Go.Proofs.YtjhbeecmdgglgaaGreatDoor
open Go.RowKit Go.Maps
def checkP (p:Pl):Int:=if kindsB p then if rangesB p then if countsB p then if typesB p then if formB p then 0 else 1 else 5 else 2 else 3 else 4
theorem counts_short {p:Pl}(h:countsB p=true):p.short:=by
 unfold countsB at h;rw[Bool.and_eq_true]at h;obtain⟨h1,h2⟩:=h;simp only[allB,lens,List.all_cons,List.all_nil,id,Bool.and_true,Bool.and_eq_true]at h1;obtain⟨a,b,c,d⟩:=h1;have a:=btw_of a;have b:=btw_of b;have c:=btw_of c;have d:=btw_of d
 have e:p.group.length≤8∧p.aggs.length≤4:=by
  cases hg:p.grouped
  ·rw[hg]at h2
   simp at h2;omega
  ·rw[hg]at h2
   simp only[if_true,Bool.and_eq_true,decide_eq_true_eq]at h2;have:=btw_of h2.1;omega
 exact⟨by omega,by omega,by omega,by omega,by omega,by omega,by omega,by omega,e.1,e.2⟩
set_option maxHeartbeats 4000000 in
set_option maxRecDepth 10000 in
theorem check_any (p:Pl)(w:World)(h:p.ok w)(hf:p.fit):
 Calls Tryz.prog 52 #[.agg #[.int .i64 p.kind,.int .i64 p.mode,.int .i64 p.low,.int .i64 p.high,.int .i64 p.size,.int .i64 p.limit,p.vl,p.vr,p.vk,p.vq,.bool p.grouped,p.vg,p.va]] w fun e w'=>e= .returned (.int .i64 (checkP p))∧Below w.heap.size w w':=by
 have HO:=Lib.hid h;have HF:=Lib.hid hf;have K1:=Blk.new w 25 #[.int .i64 p.kind,.int .i64 p.mode,.int .i64 p.low,.int .i64 p.high,.int .i64 p.size,.int .i64 p.limit,p.vl,p.vr,p.vk,p.vq,.bool p.grouped,p.vg,p.va];have K1:=K1.alloc (.cells #[.func (.func 96) #[] #[],.int .i64 4,.func (.func 97) #[] #[],.int .i64 3,.func (.func 98) #[] #[],.int .i64 2,.func (.func 99) #[] #[],.int .i64 5,.func (.func 100) #[] #[],.int .i64 1] 139);have K2:=new_second w 139 #[.func (.func 96) #[] #[],.int .i64 4,.func (.func 97) #[] #[],.int .i64 3,.func (.func 98) #[] #[],.int .i64 2,.func (.func 99) #[] #[],.int .i64 5,.func (.func 100) #[] #[],.int .i64 1] (.cells #[.int .i64 p.kind,.int .i64 p.mode,.int .i64 p.low,.int .i64 p.high,.int .i64 p.size,.int .i64 p.limit,p.vl,p.vr,p.vk,p.vq,.bool p.grouped,p.vg,p.va] 25);have hB:=below_trans (below_alloc w (.cells #[.int .i64 p.kind,.int .i64 p.mode,.int .i64 p.low,.int .i64 p.high,.int .i64 p.size,.int .i64 p.limit,p.vl,p.vr,p.vk,p.vq,.bool p.grouped,p.vg,p.va] 25)) (below_alloc _ (.cells #[.func (.func 96) #[] #[],.int .i64 4,.func (.func 97) #[] #[],.int .i64 3,.func (.func 98) #[] #[],.int .i64 2,.func (.func 99) #[] #[],.int .i64 5,.func (.func 100) #[] #[],.int .i64 1] 139));obtain⟨bs,hbs⟩: ∃bs:List Bool,bs=[kindsB p,rangesB p,countsB p,typesB p,formB p]:=⟨_,rfl⟩;have HBS:=Lib.hid hbs;have HC:Hid (checkP p=if kindsB p then if rangesB p then if countsB p then if typesB p then if formB p then 0 else 1 else 5 else 2 else 3 else 4):=Lib.hid rfl;generalize checkP p=R at HC⊢;clear h hf hbs;go_enter Tryz.func52,Tryz.ntmps52
 go_wp2_with fail
 go_loopw[4,12] (fun _ i wr=> ∃k:Nat,k≤5∧i= .int .i64 k∧Hid (∀b∈bs.take k,id b=true)∧Blk wr w.heap.size 25 #[.int .i64 p.kind,.int .i64 p.mode,.int .i64 p.low,.int .i64 p.high,.int .i64 p.size,.int .i64 p.limit,p.vl,p.vr,p.vk,p.vq,.bool p.grouped,p.vg,p.va]∧Blk wr (w.heap.size+1) 139 #[.func (.func 96) #[] #[],.int .i64 4,.func (.func 97) #[] #[],.int .i64 3,.func (.func 98) #[] #[],.int .i64 2,.func (.func 99) #[] #[],.int .i64 5,.func (.func 100) #[] #[],.int .i64 1]∧Below w.heap.size w wr) (fun _ i _=>5-(intOf i).toNat)
 case atStart=>exact⟨0,by omega,rfl,by simp[Hid],K1,K2,hB⟩
 case round=>
  obtain⟨k,hk,rfl,H,J1,J2,hbw⟩:=hrel;have hk5:k=0∨k=1∨k=2∨k=3∨k=4∨k=5:=by omega
  rcases hk5 with rfl|rfl|rfl|rfl|rfl|rfl
  ·have z0:=J2.cell 0 _ rfl
   have z1:=J2.cell 1 _ rfl;have J1':=J1.alloc (.cells #[.func (.func 96) #[] #[],.int .i64 4] 139);have J2':=J2.alloc (.cells #[.func (.func 96) #[] #[],.int .i64 4] 139);have y0:=J1'.cell 0 _ rfl;have y1:=J1'.cell 1 _ rfl;have y2:=J1'.cell 2 _ rfl;have y3:=J1'.cell 3 _ rfl;have y4:=J1'.cell 4 _ rfl;have y5:=J1'.cell 5 _ rfl;have y6:=J1'.cell 6 _ rfl;have y7:=J1'.cell 7 _ rfl;have y8:=J1'.cell 8 _ rfl;have y9:=J1'.cell 9 _ rfl;have y10:=J1'.cell 10 _ rfl;have y11:=J1'.cell 11 _ rfl;have y12:=J1'.cell 12 _ rfl;have hbw2:=hbw.alloc hbw.size (.cells #[.func (.func 96) #[] #[],.int .i64 4] 139);have hsz:=hbw.size;have G: ∀(j:Nat) (b:Bool),j<0→bs[j]?=some b→b=true:=fun j b hj hb=>H.out b (List.mem_of_getElem? (i:=j) (by rw[List.getElem?_take,if_pos hj];exact hb));clear G;cases hq:kindsB p
   ·have EE:=Lib.hid (HC.out.trans (by simp only[hq];rfl:_=(4:Int)))
    have HQ:=Lib.hid hq;clear hq
    go_wp2_with fail
    refine(kinds_any p _ (HO.out.below hbw2)).mono ?_;rw[HQ.out];rintro e w1 ⟨rfl,hb1⟩;have x0:=((Blk.new wr 139 #[.func (.func 96) #[] #[],.int .i64 4]).below hb1).cell 1 _ rfl;go_wp2;go_ret;exact⟨by rw[EE.out];rfl,below_trans hbw2 hb1⟩
   ·have e1:=Lib.hid (all_step (f:=id) (l:=bs) (k:=0) H.out (by rw[HBS.out];rfl) hq)
    have HQ:=Lib.hid hq;clear hq
    go_wp2_with fail
    refine(kinds_any p _ (HO.out.below hbw2)).mono ?_;rw[HQ.out];rintro e w1 ⟨rfl,hb1⟩;go_wp2;go_roundw
    case rel=>exact⟨1,by omega,by go_num,e1.out,J1'.below hb1,J2'.below hb1,below_trans hbw2 hb1⟩
    case measure=>simp[intOf]
  ·have z0:=J2.cell 2 _ rfl
   have z1:=J2.cell 3 _ rfl;have J1':=J1.alloc (.cells #[.func (.func 97) #[] #[],.int .i64 3] 139);have J2':=J2.alloc (.cells #[.func (.func 97) #[] #[],.int .i64 3] 139);have y0:=J1'.cell 0 _ rfl;have y1:=J1'.cell 1 _ rfl;have y2:=J1'.cell 2 _ rfl;have y3:=J1'.cell 3 _ rfl;have y4:=J1'.cell 4 _ rfl;have y5:=J1'.cell 5 _ rfl;have y6:=J1'.cell 6 _ rfl;have y7:=J1'.cell 7 _ rfl;have y8:=J1'.cell 8 _ rfl;have y9:=J1'.cell 9 _ rfl;have y10:=J1'.cell 10 _ rfl;have y11:=J1'.cell 11 _ rfl;have y12:=J1'.cell 12 _ rfl;have hbw2:=hbw.alloc hbw.size (.cells #[.func (.func 97) #[] #[],.int .i64 3] 139);have hsz:=hbw.size;have G: ∀(j:Nat) (b:Bool),j<1→bs[j]?=some b→b=true:=fun j b hj hb=>H.out b (List.mem_of_getElem? (i:=j) (by rw[List.getElem?_take,if_pos hj];exact hb));have B0:=Lib.hid (G 0 (kindsB p) (by omega) (by rw[HBS.out];rfl));clear G;cases hq:rangesB p
   ·have EE:=Lib.hid (HC.out.trans (by simp only[B0.out,hq];rfl:_=(3:Int)))
    have HQ:=Lib.hid hq;clear hq
    go_wp2_with fail
    refine(ranges_any p _).mono ?_;rw[HQ.out];rintro e w1 ⟨rfl,hb1⟩;have x0:=((Blk.new wr 139 #[.func (.func 97) #[] #[],.int .i64 3]).below hb1).cell 1 _ rfl;go_wp2;go_ret;exact⟨by rw[EE.out];rfl,below_trans hbw2 hb1⟩
   ·have e1:=Lib.hid (all_step (f:=id) (l:=bs) (k:=1) H.out (by rw[HBS.out];rfl) hq)
    have HQ:=Lib.hid hq;clear hq
    go_wp2_with fail
    refine(ranges_any p _).mono ?_;rw[HQ.out];rintro e w1 ⟨rfl,hb1⟩;go_wp2;go_roundw
    case rel=>exact⟨2,by omega,by go_num,e1.out,J1'.below hb1,J2'.below hb1,below_trans hbw2 hb1⟩
    case measure=>simp[intOf]
  ·have z0:=J2.cell 4 _ rfl
   have z1:=J2.cell 5 _ rfl;have J1':=J1.alloc (.cells #[.func (.func 98) #[] #[],.int .i64 2] 139);have J2':=J2.alloc (.cells #[.func (.func 98) #[] #[],.int .i64 2] 139);have y0:=J1'.cell 0 _ rfl;have y1:=J1'.cell 1 _ rfl;have y2:=J1'.cell 2 _ rfl;have y3:=J1'.cell 3 _ rfl;have y4:=J1'.cell 4 _ rfl;have y5:=J1'.cell 5 _ rfl;have y6:=J1'.cell 6 _ rfl;have y7:=J1'.cell 7 _ rfl;have y8:=J1'.cell 8 _ rfl;have y9:=J1'.cell 9 _ rfl;have y10:=J1'.cell 10 _ rfl;have y11:=J1'.cell 11 _ rfl;have y12:=J1'.cell 12 _ rfl;have hbw2:=hbw.alloc hbw.size (.cells #[.func (.func 98) #[] #[],.int .i64 2] 139);have hsz:=hbw.size;have G: ∀(j:Nat) (b:Bool),j<2→bs[j]?=some b→b=true:=fun j b hj hb=>H.out b (List.mem_of_getElem? (i:=j) (by rw[List.getElem?_take,if_pos hj];exact hb));have B0:=Lib.hid (G 0 (kindsB p) (by omega) (by rw[HBS.out];rfl));have B1:=Lib.hid (G 1 (rangesB p) (by omega) (by rw[HBS.out];rfl));clear G;cases hq:countsB p
   ·have EE:=Lib.hid (HC.out.trans (by simp only[B0.out,B1.out,hq];rfl:_=(2:Int)))
    have HQ:=Lib.hid hq;clear hq
    go_wp2_with fail
    refine(counts_any p _ (HO.out.below hbw2)).mono ?_;rw[HQ.out];rintro e w1 ⟨rfl,hb1⟩;have x0:=((Blk.new wr 139 #[.func (.func 98) #[] #[],.int .i64 2]).below hb1).cell 1 _ rfl;go_wp2;go_ret;exact⟨by rw[EE.out];rfl,below_trans hbw2 hb1⟩
   ·have e1:=Lib.hid (all_step (f:=id) (l:=bs) (k:=2) H.out (by rw[HBS.out];rfl) hq)
    have HQ:=Lib.hid hq;clear hq
    go_wp2_with fail
    refine(counts_any p _ (HO.out.below hbw2)).mono ?_;rw[HQ.out];rintro e w1 ⟨rfl,hb1⟩;go_wp2;go_roundw
    case rel=>exact⟨3,by omega,by go_num,e1.out,J1'.below hb1,J2'.below hb1,below_trans hbw2 hb1⟩
    case measure=>simp[intOf]
  ·have z0:=J2.cell 6 _ rfl
   have z1:=J2.cell 7 _ rfl;have J1':=J1.alloc (.cells #[.func (.func 99) #[] #[],.int .i64 5] 139);have J2':=J2.alloc (.cells #[.func (.func 99) #[] #[],.int .i64 5] 139);have y0:=J1'.cell 0 _ rfl;have y1:=J1'.cell 1 _ rfl;have y2:=J1'.cell 2 _ rfl;have y3:=J1'.cell 3 _ rfl;have y4:=J1'.cell 4 _ rfl;have y5:=J1'.cell 5 _ rfl;have y6:=J1'.cell 6 _ rfl;have y7:=J1'.cell 7 _ rfl;have y8:=J1'.cell 8 _ rfl;have y9:=J1'.cell 9 _ rfl;have y10:=J1'.cell 10 _ rfl;have y11:=J1'.cell 11 _ rfl;have y12:=J1'.cell 12 _ rfl;have hbw2:=hbw.alloc hbw.size (.cells #[.func (.func 99) #[] #[],.int .i64 5] 139);have hsz:=hbw.size;have G: ∀(j:Nat) (b:Bool),j<3→bs[j]?=some b→b=true:=fun j b hj hb=>H.out b (List.mem_of_getElem? (i:=j) (by rw[List.getElem?_take,if_pos hj];exact hb));have B0:=Lib.hid (G 0 (kindsB p) (by omega) (by rw[HBS.out];rfl));have B1:=Lib.hid (G 1 (rangesB p) (by omega) (by rw[HBS.out];rfl));have B2:=Lib.hid (G 2 (countsB p) (by omega) (by rw[HBS.out];rfl));have CC:=B2;clear G;cases hq:typesB p
   ·have EE:=Lib.hid (HC.out.trans (by simp only[B0.out,B1.out,B2.out,hq];rfl:_=(5:Int)))
    have HQ:=Lib.hid hq;clear hq
    go_wp2_with fail
    refine(typesFine_any p _ (HO.out.below hbw2) (counts_short CC.out)).mono ?_;rw[HQ.out];rintro e w1 ⟨rfl,hb1⟩;have x0:=((Blk.new wr 139 #[.func (.func 99) #[] #[],.int .i64 5]).below hb1).cell 1 _ rfl;go_wp2;go_ret;exact⟨by rw[EE.out];rfl,below_trans hbw2 hb1⟩
   ·have e1:=Lib.hid (all_step (f:=id) (l:=bs) (k:=3) H.out (by rw[HBS.out];rfl) hq)
    have HQ:=Lib.hid hq;clear hq
    go_wp2_with fail
    refine(typesFine_any p _ (HO.out.below hbw2) (counts_short CC.out)).mono ?_;rw[HQ.out];rintro e w1 ⟨rfl,hb1⟩;go_wp2;go_roundw
    case rel=>exact⟨4,by omega,by go_num,e1.out,J1'.below hb1,J2'.below hb1,below_trans hbw2 hb1⟩
    case measure=>simp[intOf]
  ·have z0:=J2.cell 8 _ rfl
   have z1:=J2.cell 9 _ rfl;have J1':=J1.alloc (.cells #[.func (.func 100) #[] #[],.int .i64 1] 139);have J2':=J2.alloc (.cells #[.func (.func 100) #[] #[],.int .i64 1] 139);have y0:=J1'.cell 0 _ rfl;have y1:=J1'.cell 1 _ rfl;have y2:=J1'.cell 2 _ rfl;have y3:=J1'.cell 3 _ rfl;have y4:=J1'.cell 4 _ rfl;have y5:=J1'.cell 5 _ rfl;have y6:=J1'.cell 6 _ rfl;have y7:=J1'.cell 7 _ rfl;have y8:=J1'.cell 8 _ rfl;have y9:=J1'.cell 9 _ rfl;have y10:=J1'.cell 10 _ rfl;have y11:=J1'.cell 11 _ rfl;have y12:=J1'.cell 12 _ rfl;have hbw2:=hbw.alloc hbw.size (.cells #[.func (.func 100) #[] #[],.int .i64 1] 139);have hsz:=hbw.size;have G: ∀(j:Nat) (b:Bool),j<4→bs[j]?=some b→b=true:=fun j b hj hb=>H.out b (List.mem_of_getElem? (i:=j) (by rw[List.getElem?_take,if_pos hj];exact hb));have B0:=Lib.hid (G 0 (kindsB p) (by omega) (by rw[HBS.out];rfl));have B1:=Lib.hid (G 1 (rangesB p) (by omega) (by rw[HBS.out];rfl));have B2:=Lib.hid (G 2 (countsB p) (by omega) (by rw[HBS.out];rfl));have B3:=Lib.hid (G 3 (typesB p) (by omega) (by rw[HBS.out];rfl));have CC:=B2;clear G;cases hq:formB p
   ·have EE:=Lib.hid (HC.out.trans (by simp only[B0.out,B1.out,B2.out,B3.out,hq];rfl:_=(1:Int)))
    have HQ:=Lib.hid hq;clear hq
    go_wp2_with fail
    refine(form_any p _ (HO.out.below hbw2) (counts_short CC.out) HF.out).mono ?_;rw[HQ.out];rintro e w1 ⟨rfl,hb1⟩;have x0:=((Blk.new wr 139 #[.func (.func 100) #[] #[],.int .i64 1]).below hb1).cell 1 _ rfl;go_wp2;go_ret;exact⟨by rw[EE.out];rfl,below_trans hbw2 hb1⟩
   ·have e1:=Lib.hid (all_step (f:=id) (l:=bs) (k:=4) H.out (by rw[HBS.out];rfl) hq)
    have HQ:=Lib.hid hq;clear hq
    go_wp2_with fail
    refine(form_any p _ (HO.out.below hbw2) (counts_short CC.out) HF.out).mono ?_;rw[HQ.out];rintro e w1 ⟨rfl,hb1⟩;go_wp2;go_roundw
    case rel=>exact⟨5,by omega,by go_num,e1.out,J1'.below hb1,J2'.below hb1,below_trans hbw2 hb1⟩
    case measure=>simp[intOf]
  ·have hall:=H.out
   rw[HBS.out]at hall;have B0:kindsB p=true:=hall _ (List.mem_of_getElem? (i:=0) rfl);have B1:rangesB p=true:=hall _ (List.mem_of_getElem? (i:=1) rfl);have B2:countsB p=true:=hall _ (List.mem_of_getElem? (i:=2) rfl);have B3:typesB p=true:=hall _ (List.mem_of_getElem? (i:=3) rfl);have B4:formB p=true:=hall _ (List.mem_of_getElem? (i:=4) rfl);have EE:=Lib.hid (HC.out.trans (by simp only[B0,B1,B2,B3,B4];rfl:_=(0:Int)));clear hall B0 B1 B2 B3 B4;go_wp2;go_ret;exact⟨by rw[EE.out];rfl,hbw⟩
end Go.Proofs.YtjhbeecmdgglgaaGreatDoor
namespace Go.Proofs.YtjhbeecmdgglgaaGreatDoor
open Go.RowKit Go.Maps
theorem check_ok {p:Pl}(h:checkP p=0):kindsB p=true∧rangesB p=true∧countsB p=true∧typesB p=true∧formB p=true:=by
 unfold checkP at h;cases h1:kindsB p<;>cases h2:rangesB p<;>cases h3:countsB p<;>cases h4:typesB p<;>cases h5:formB p<;>simp_all
theorem kinds_agg {p:Pl}(h:kindsB p=true)(hg:p.grouped=true): ∀a∈p.aggs,1≤a.1∧a.1≤4:=by
 unfold kindsB at h;rw[hg]at h;simp only[Bool.not_true,Bool.false_or,Bool.and_eq_true,allB,List.all_eq_true]at h;exact fun a ha=>btw_of (h.2.2 a ha)
theorem form_group {p:Pl}(h:formB p=true): ∀x∈p.group,0≤x∧x<(p.left++p.right).length:=by
 unfold formB at h;simp only[Bool.and_eq_true]at h;exact unl_range h.2.2.2.2.1
theorem form_aggs {p:Pl}(h:formB p=true): ∀x∈p.aggs,x.1≠1→0≤x.2∧x.2<(p.left++p.right).length:=by
 unfold formB at h;simp only[Bool.and_eq_true,allB,List.all_eq_true]at h;intro x hx hne;have:=h.2.2.2.2.2.2 x hx;unfold aggOk at this;rw[if_neg hne,Bool.and_eq_true]at this;have:=btw_of this.1;omega
theorem map_step {α β:Type}{f:α→β}{l:List α}{k:Nat}{x:α}(h:l[k]?=some x):(l.take (k+1)).map f=(l.take k).map f++[f x]:=by
 rw[List.take_add_one,h];simp
end Go.Proofs.YtjhbeecmdgglgaaGreatDoor
namespace Go.Proofs.YtjhbeecmdgglgaaGreatDoor
open Go.RowKit Go.Maps
def sideT (p:Pl) (side:Int):List Int:=if side=2 then p.right else p.left
def fitOne (q:Int×Val):Bool:=q.2.k==0||q.2.k==q.1
def rowE (p:Pl) (side:Int) (r:List Val):Int:=
 if side=1∨side=2 then if r.length=(sideT p side).length then if firstNZ (r.map checkV)=0 then if allB fitOne ((sideT p side).zip r)then 0 else 5 else firstNZ (r.map checkV)else 2 else 4
def rowR (p:Pl) (side:Int) (r:List Val):Int:=if checkP p=0 then rowE p side r else checkP p
theorem side_two (p:Pl):sideT p 2=p.right:=if_pos rfl
theorem side_one (p:Pl):sideT p 1=p.left:=if_neg (by decide)
set_option maxHeartbeats 8000000 in
set_option maxRecDepth 10000 in
theorem row_any (p:Pl)(side:Int)(v:Value)(r:List Val)(w:World)(h:p.ok w)(hf:p.fit)(hr:Sl w v r.length (rowCells r))(hs:Small r):
 Calls Tryz.prog 85 #[.agg #[.int .i64 p.kind,.int .i64 p.mode,.int .i64 p.low,.int .i64 p.high,.int .i64 p.size,.int .i64 p.limit,p.vl,p.vr,p.vk,p.vq,.bool p.grouped,p.vg,p.va],.int .i64 side,v] w fun e w'=>e= .returned (.int .i64 (rowR p side r))∧Below w.heap.size w w':=by
 have HC:=Lib.hid (fun w' (hb:Below w.heap.size w w')=>check_any p w' (h.below hb) hf);have HE:Hid (rowR p side r=if checkP p=0 then(if side=1∨side=2 then if r.length=(sideT p side).length then if firstNZ (r.map checkV)=0 then if allB fitOne ((sideT p side).zip r)then 0 else 5 else firstNZ (r.map checkV)else 2 else 4)else checkP p):=Lib.hid rfl;have HOK:=Lib.hid (fun hz:checkP p=0=>counts_short (check_ok hz).2.2.1);have HL:=Lib.hid h.l;have HR:=Lib.hid h.r;have HV:=Lib.hid hr;have HSM:=Lib.hid hs;clear h hf hs;generalize rowR p side r=R at HE⊢;generalize checkP p=q at HC HE HOK⊢;have HS:Hid (side=1→sideT p side=p.left):=Lib.hid (by rintro rfl;exact side_one p);have HS':Hid (side=2→sideT p side=p.right):=Lib.hid (by rintro rfl;exact side_two p);generalize sideT p side=t at HE HS HS';obtain⟨kind,mode,low,high,size,limit,vl,vr,vk,vq,grouped,vg,va,left,right,lkeys,rkeys,group,aggs⟩:=p;simp only at HC HE HOK HL HR HS HS'⊢;obtain⟨A0,c0,rfl,n0,m0,-⟩:=id HL.out;obtain⟨A1,c1,rfl,n1,m1,-⟩:=id HR.out;obtain⟨A,c,rfl,n2,m2,-⟩:=hr;unfold maxLen at m0 m1 m2;have hB:=below_alloc w (.cells #[.int .i64 kind,.int .i64 mode,.int .i64 low,.int .i64 high,.int .i64 size,.int .i64 limit,.slice A0 left.length c0,.slice A1 right.length c1,vk,vq,.bool grouped,vg,va] 25);have K1:=Blk.new w 25 #[.int .i64 kind,.int .i64 mode,.int .i64 low,.int .i64 high,.int .i64 size,.int .i64 limit,.slice A0 left.length c0,.slice A1 right.length c1,vk,vq,.bool grouped,vg,va];by_cases hq:q=0
 ·subst hq
  obtain⟨l1,l2,r1,r2,-⟩:=HOK.out rfl;simp only at l1 l2 r1 r2;have HE2:=Lib.hid (HE.out.trans (if_pos rfl));clear HE HOK;by_cases hs1:side=1
  ·have b1:=beqT hs1
   have HE3:=Lib.hid (HE2.out.trans (if_pos (.inl hs1)));obtain rfl:=HS.out hs1;have HTT:=HL;clear HE2 HS HS' hs1;go_enter Tryz.func85,Tryz.ntmps85
   go_wp2_with fail
   refine(HC.out _ hB).mono ?_;rintro e w1 ⟨rfl,hb1⟩;have B1:=below_trans hB hb1;have K2:=K1.below hb1;clear K1 hB hb1 HC;have y6:=K2.cell 6 _ rfl;have y7:=K2.cell 7 _ rfl;by_cases hlen:r.length=t.length
   ·have HE4:=Lib.hid (HE3.out.trans (if_pos hlen))
    have b2:((r.length:Int)==(t.length:Int))=true:=by simp[hlen]
    have b2':=bne_of b2;simp only[Bool.not_true]at b2';have HLE:=Lib.hid hlen;have hle:r.length≤t.length:=by omega
    clear HE3 hlen
    go_wp2_with fail
    go_loopw[10,11,35] (fun _ _ i wr=> ∃k:Nat,k≤r.length∧i= .int .i64 k∧Hid (∀x∈(r.map checkV).take k,x=0)∧Below w1.heap.size w1 wr) (fun _ _ i _=>r.length-(intOf i).toNat)
    case atStart=>exact⟨0,by omega,rfl,by simp[Hid],Below.refl _ _⟩
    case round=>
     obtain⟨k,hk,rfl,H,hbw⟩:=hrel;have hBw:=B1.trans (hbw.mono B1.size);by_cases hlt:k<r.length
     ·have hx:=List.getElem?_eq_getElem (l:=r) hlt
      generalize r[k]=x at hx;obtain⟨g,off,rfl,-,hc⟩:=val_at HV.out rfl hx;obtain⟨d1,d2,d3⟩:=hc _ hBw;have hxs:=HSM.out x (List.mem_of_getElem? hx);have HG:=Lib.hid (show(r.map checkV)[k]?=some (checkV x)from by rw[List.getElem?_map,hx];rfl);have hbw2:=hbw.alloc hbw.size (.cells #[.int .i64 x.k,.int .i64 x.n,.string x.s] 68);clear hx hc;by_cases hq:checkV x=0
      ·have HQ:=Lib.hid hq
       have hq1:=beqT hq;have hq2:=bne_of hq1;simp only[Bool.not_true]at hq2;have HZ:=Lib.hid (zeros_step H.out HG.out hq);clear hq
       go_wp2_with (go_at_call 102;refine(check_val x _ hxs).mono ?_;rintro e w1 ⟨rfl,hb1⟩)
       go_roundw
       case rel=>exact⟨k+1,by omega,by go_num,HZ.out,hbw2.trans (hb1.mono hbw2.size)⟩
       case measure=>simp[intOf];omega
      ·have e1:=Lib.hid (firstNZ_hit H.out HG.out hq)
       have hq1:=beqF hq;have hq2:=bne_of hq1;simp only[Bool.not_false]at hq2;have EE:Hid (R=checkV x):=Lib.hid (by rw[HE4.out,e1.out,if_neg hq]);clear hq
       go_wp2_with (go_at_call 102;refine(check_val x _ hxs).mono ?_;rintro e w1 ⟨rfl,hb1⟩)
       go_ret;exact⟨by rw[EE.out];rfl,(hBw.alloc hBw.size _).trans (hb1.mono (by have:=hBw.size;simp;omega))⟩
     ·obtain rfl:k=r.length:=by omega
      have e1:=Lib.hid (firstNZ_none (l:=r.map checkV) (by have:=H.out;rwa[List.take_of_length_le (by simp)]at this));have HE5:Hid (R=if allB fitOne (t.zip r)then 0 else 5):=Lib.hid (by rw[HE4.out,e1.out];rfl);clear HE4 e1 H
      go_wp2_with fail
      go_loopw[12,13,47] (fun _ _ i wr=> ∃k:Nat,k≤r.length∧i= .int .i64 k∧Hid (∀x∈(t.zip r).take k,fitOne x=true)∧Below w1.heap.size w1 wr) (fun _ _ i _=>r.length-(intOf i).toNat)
      case atStart=>exact⟨0,by omega,rfl,by simp[Hid],hbw⟩
      case round=>
       clear hbw hBw;obtain⟨k,hk,rfl,H,hbw⟩:=hrel;have hBw:=B1.trans (hbw.mono B1.size);by_cases hlt:k<r.length
       ·have hx:=List.getElem?_eq_getElem (l:=r) hlt
        generalize r[k]=x at hx;obtain⟨g,off,rfl,-,hc⟩:=val_at HV.out rfl hx;obtain⟨d1,d2,d3⟩:=hc _ hBw;have hlt2:k<t.length:=by omega
        obtain⟨bt,ot,hAt,-,hct⟩:=int_at HTT.out rfl hlt2;have hbw2:=hbw.alloc hbw.size (.cells #[.int .i64 x.k,.int .i64 x.n,.string x.s] 68);have hBw2:=B1.trans (hbw2.mono B1.size);have d4:=hct _ hBw2;have gt:t[k]?=some (t.getD k 0):=by simp[hlt2]
        generalize t.getD k 0=y at d4 gt;have HG:=Lib.hid (show(t.zip r)[k]?=some (y,x)from by rw[List.getElem?_zip_eq_some];exact⟨gt,hx⟩);have HFO:=Lib.hid (show fitOne (y,x)=(x.k==0||x.k==y)from rfl);clear hx hc hct gt;subst hAt;have k0:(0:Int)≤(k:Int):=by omega
        have k1:(k:Int)<(t.length:Int):=by omega
        cases hq:(x.k==0)
        ·have hq2:=bne_of hq
         simp only[Bool.not_false]at hq2;cases hz:(x.k==y)
         ·have hz2:=bne_of hz
          simp only[Bool.not_false]at hz2;have e1:=Lib.hid (all_no (f:=fitOne) HG.out (by rw[HFO.out,hq,hz];rfl));have EE:Hid (R=5):=Lib.hid (by rw[HE5.out,e1.out];rfl)
          go_wp2_with fail
          go_quiet (fail)
          go_wp2;go_ret;exact⟨ret_int (by rw[EE.out]),below_drewN hBw2 _⟩
         ·have hz2:=bne_of hz
          simp only[Bool.not_true]at hz2;have e1:=Lib.hid (all_step (f:=fitOne) H.out HG.out (by rw[HFO.out,hz,Bool.or_true]))
          go_wp2_with fail
          go_quiet (fail)
          go_wp2;go_roundw
          case rel=>exact⟨k+1,by omega,by go_num,e1.out,below_drewN hbw2 _⟩
          case measure=>simp[intOf];omega
        ·have hq2:=bne_of hq
         simp only[Bool.not_true]at hq2;have e1:=Lib.hid (all_step (f:=fitOne) H.out HG.out (by rw[HFO.out,hq,Bool.true_or]))
         go_wp2_with fail
         go_quiet (fail)
         go_wp2;go_roundw
         case rel=>exact⟨k+1,by omega,by go_num,e1.out,below_drewN hbw2 _⟩
         case measure=>simp[intOf];omega
       ·obtain rfl:k=r.length:=by omega
        have e1:=Lib.hid (show allB fitOne (t.zip r)=true from all_yes (by
         have hzl:(t.zip r).length=r.length:=by rw[List.length_zip];omega
         rw[hzl];exact H.out))
        have EE:Hid (R=0):=Lib.hid (by rw[HE5.out,e1.out];rfl);go_wp2;go_ret;exact⟨ret_int (by rw[EE.out]),hBw⟩
   ·have EE:Hid (R=2):=Lib.hid (HE3.out.trans (if_neg hlen))
    have b2:((r.length:Int)==(t.length:Int))=false:=by simp;omega
    have b2':=bne_of b2;simp only[Bool.not_false]at b2';clear HE3 hlen;go_wp2;go_ret;exact⟨ret_int (by rw[EE.out]),B1⟩
  ·by_cases hs2:side=2
   ·have b1:=beqF hs1
    have b1b:=beqT hs2;have HE3:=Lib.hid (HE2.out.trans (if_pos (.inr hs2)));obtain rfl:=HS'.out hs2;have HTT:=HR;clear HE2 HS HS' hs1 hs2;go_enter Tryz.func85,Tryz.ntmps85
    go_wp2_with fail
    refine(HC.out _ hB).mono ?_;rintro e w1 ⟨rfl,hb1⟩;have B1:=below_trans hB hb1;have K2:=K1.below hb1;clear K1 hB hb1 HC;have y6:=K2.cell 6 _ rfl;have y7:=K2.cell 7 _ rfl;by_cases hlen:r.length=t.length
    ·have HE4:=Lib.hid (HE3.out.trans (if_pos hlen))
     have b2:((r.length:Int)==(t.length:Int))=true:=by simp[hlen]
     have b2':=bne_of b2;simp only[Bool.not_true]at b2';have HLE:=Lib.hid hlen;have hle:r.length≤t.length:=by omega
     clear HE3 hlen
     go_wp2_with fail
     go_loopw[10,11,35] (fun _ _ i wr=> ∃k:Nat,k≤r.length∧i= .int .i64 k∧Hid (∀x∈(r.map checkV).take k,x=0)∧Below w1.heap.size w1 wr) (fun _ _ i _=>r.length-(intOf i).toNat)
     case atStart=>exact⟨0,by omega,rfl,by simp[Hid],Below.refl _ _⟩
     case round=>
      obtain⟨k,hk,rfl,H,hbw⟩:=hrel;have hBw:=B1.trans (hbw.mono B1.size);by_cases hlt:k<r.length
      ·have hx:=List.getElem?_eq_getElem (l:=r) hlt
       generalize r[k]=x at hx;obtain⟨g,off,rfl,-,hc⟩:=val_at HV.out rfl hx;obtain⟨d1,d2,d3⟩:=hc _ hBw;have hxs:=HSM.out x (List.mem_of_getElem? hx);have HG:=Lib.hid (show(r.map checkV)[k]?=some (checkV x)from by rw[List.getElem?_map,hx];rfl);have hbw2:=hbw.alloc hbw.size (.cells #[.int .i64 x.k,.int .i64 x.n,.string x.s] 68);clear hx hc;by_cases hq:checkV x=0
       ·have HQ:=Lib.hid hq
        have hq1:=beqT hq;have hq2:=bne_of hq1;simp only[Bool.not_true]at hq2;have HZ:=Lib.hid (zeros_step H.out HG.out hq);clear hq
        go_wp2_with (go_at_call 102;refine(check_val x _ hxs).mono ?_;rintro e w1 ⟨rfl,hb1⟩)
        go_roundw
        case rel=>exact⟨k+1,by omega,by go_num,HZ.out,hbw2.trans (hb1.mono hbw2.size)⟩
        case measure=>simp[intOf];omega
       ·have e1:=Lib.hid (firstNZ_hit H.out HG.out hq)
        have hq1:=beqF hq;have hq2:=bne_of hq1;simp only[Bool.not_false]at hq2;have EE:Hid (R=checkV x):=Lib.hid (by rw[HE4.out,e1.out,if_neg hq]);clear hq
        go_wp2_with (go_at_call 102;refine(check_val x _ hxs).mono ?_;rintro e w1 ⟨rfl,hb1⟩)
        go_ret;exact⟨by rw[EE.out];rfl,(hBw.alloc hBw.size _).trans (hb1.mono (by have:=hBw.size;simp;omega))⟩
      ·obtain rfl:k=r.length:=by omega
       have e1:=Lib.hid (firstNZ_none (l:=r.map checkV) (by have:=H.out;rwa[List.take_of_length_le (by simp)]at this));have HE5:Hid (R=if allB fitOne (t.zip r)then 0 else 5):=Lib.hid (by rw[HE4.out,e1.out];rfl);clear HE4 e1 H
       go_wp2_with fail
       go_loopw[12,13,47] (fun _ _ i wr=> ∃k:Nat,k≤r.length∧i= .int .i64 k∧Hid (∀x∈(t.zip r).take k,fitOne x=true)∧Below w1.heap.size w1 wr) (fun _ _ i _=>r.length-(intOf i).toNat)
       case atStart=>exact⟨0,by omega,rfl,by simp[Hid],hbw⟩
       case round=>
        clear hbw hBw;obtain⟨k,hk,rfl,H,hbw⟩:=hrel;have hBw:=B1.trans (hbw.mono B1.size);by_cases hlt:k<r.length
        ·have hx:=List.getElem?_eq_getElem (l:=r) hlt
         generalize r[k]=x at hx;obtain⟨g,off,rfl,-,hc⟩:=val_at HV.out rfl hx;obtain⟨d1,d2,d3⟩:=hc _ hBw;have hlt2:k<t.length:=by omega
         obtain⟨bt,ot,hAt,-,hct⟩:=int_at HTT.out rfl hlt2;have hbw2:=hbw.alloc hbw.size (.cells #[.int .i64 x.k,.int .i64 x.n,.string x.s] 68);have hBw2:=B1.trans (hbw2.mono B1.size);have d4:=hct _ hBw2;have gt:t[k]?=some (t.getD k 0):=by simp[hlt2]
         generalize t.getD k 0=y at d4 gt;have HG:=Lib.hid (show(t.zip r)[k]?=some (y,x)from by rw[List.getElem?_zip_eq_some];exact⟨gt,hx⟩);have HFO:=Lib.hid (show fitOne (y,x)=(x.k==0||x.k==y)from rfl);clear hx hc hct gt;subst hAt;have k0:(0:Int)≤(k:Int):=by omega
         have k1:(k:Int)<(t.length:Int):=by omega
         cases hq:(x.k==0)
         ·have hq2:=bne_of hq
          simp only[Bool.not_false]at hq2;cases hz:(x.k==y)
          ·have hz2:=bne_of hz
           simp only[Bool.not_false]at hz2;have e1:=Lib.hid (all_no (f:=fitOne) HG.out (by rw[HFO.out,hq,hz];rfl));have EE:Hid (R=5):=Lib.hid (by rw[HE5.out,e1.out];rfl)
           go_wp2_with fail
           go_quiet (fail)
           go_wp2;go_ret;exact⟨ret_int (by rw[EE.out]),below_drewN hBw2 _⟩
          ·have hz2:=bne_of hz
           simp only[Bool.not_true]at hz2;have e1:=Lib.hid (all_step (f:=fitOne) H.out HG.out (by rw[HFO.out,hz,Bool.or_true]))
           go_wp2_with fail
           go_quiet (fail)
           go_wp2;go_roundw
           case rel=>exact⟨k+1,by omega,by go_num,e1.out,below_drewN hbw2 _⟩
           case measure=>simp[intOf];omega
         ·have hq2:=bne_of hq
          simp only[Bool.not_true]at hq2;have e1:=Lib.hid (all_step (f:=fitOne) H.out HG.out (by rw[HFO.out,hq,Bool.true_or]))
          go_wp2_with fail
          go_quiet (fail)
          go_wp2;go_roundw
          case rel=>exact⟨k+1,by omega,by go_num,e1.out,below_drewN hbw2 _⟩
          case measure=>simp[intOf];omega
        ·obtain rfl:k=r.length:=by omega
         have e1:=Lib.hid (show allB fitOne (t.zip r)=true from all_yes (by
          have hzl:(t.zip r).length=r.length:=by rw[List.length_zip];omega
          rw[hzl];exact H.out))
         have EE:Hid (R=0):=Lib.hid (by rw[HE5.out,e1.out];rfl);go_wp2;go_ret;exact⟨ret_int (by rw[EE.out]),hBw⟩
    ·have EE:Hid (R=2):=Lib.hid (HE3.out.trans (if_neg hlen))
     have b2:((r.length:Int)==(t.length:Int))=false:=by simp;omega
     have b2':=bne_of b2;simp only[Bool.not_false]at b2';clear HE3 hlen;go_wp2;go_ret;exact⟨ret_int (by rw[EE.out]),B1⟩
   ·have b1:=beqF hs1
    have b1b:=beqF hs2;have EE:Hid (R=4):=Lib.hid (HE2.out.trans (if_neg (by rintro(h|h);exact hs1 h;exact hs2 h)));clear HE2 HS HS' hs1 hs2;go_enter Tryz.func85,Tryz.ntmps85
    go_wp2_with fail
    refine(HC.out _ hB).mono ?_;rintro e w1 ⟨rfl,hb1⟩;have y6:=(K1.below hb1).cell 6 _ rfl;go_wp2;go_ret;exact⟨ret_int (by rw[EE.out]),below_trans hB hb1⟩
 ·have HE2:=Lib.hid (HE.out.trans (if_neg hq))
  have hb:=beqF hq;have hb':=bne_of hb;simp only[Bool.not_false]at hb';clear HE HOK hq;go_enter Tryz.func85,Tryz.ntmps85
  go_wp2_with fail
  refine(HC.out _ hB).mono ?_;rintro e w1 ⟨rfl,hb1⟩;go_wp2;go_ret;exact⟨ret_int (by rw[HE2.out]),below_trans hB hb1⟩
end Go.Proofs.YtjhbeecmdgglgaaGreatDoor
namespace Go.Proofs.YtjhbeecmdgglgaaGreatDoor
open Go.RowKit Go.Maps
set_option maxHeartbeats 8000000 in
set_option maxRecDepth 10000 in
theorem fitsTypes_any (vt v:Value)(t:List Int)(r:List Val)(w:World)(ht:Sl w vt t.length (intCells t))(hr:Sl w v r.length (rowCells r))(hl:r.length=t.length):
 Calls Tryz.prog 65 #[vt,v] w fun e w'=>e= .returned (.int .i64 (if allB fitOne (t.zip r)then 0 else 5))∧Below w.heap.size w w':=by
 have HTT:=Lib.hid ht;have HV:=Lib.hid hr;obtain⟨A0,c0,rfl,n0,m0,-⟩:=ht;obtain⟨A,c,rfl,n2,m2,-⟩:=hr;unfold maxLen at m0 m2;obtain⟨R,hR⟩: ∃R:Int,R=if allB fitOne (t.zip r)then 0 else 5:=⟨_,rfl⟩
 rw[←hR];have HR:=Lib.hid hR;have b2:((r.length:Int)==(t.length:Int))=true:=by simp[hl]
 have b2':=bne_of b2;simp only[Bool.not_true]at b2';have HLE:=Lib.hid hl;have hle:r.length≤t.length:=by omega
 clear hl hR;go_enter Tryz.func65,Tryz.ntmps65
 go_wp2_with fail
 go_loopw[5] (fun i wr=> ∃k:Nat,k≤r.length∧i= .int .i64 k∧Hid (∀x∈(t.zip r).take k,fitOne x=true)∧Below w.heap.size w wr) (fun i _=>r.length-(intOf i).toNat)
 case atStart=>exact⟨0,by omega,rfl,by simp[Hid],Below.refl _ _⟩
 case round=>
  obtain⟨k,hk,rfl,H,hbw⟩:=hrel;by_cases hlt:k<r.length
  ·have hx:=List.getElem?_eq_getElem (l:=r) hlt
   generalize r[k]=x at hx;obtain⟨g,off,rfl,-,hc⟩:=val_at HV.out rfl hx;obtain⟨d1,d2,d3⟩:=hc _ hbw;have hlt2:k<t.length:=by omega
   obtain⟨bt,ot,hAt,-,hct⟩:=int_at HTT.out rfl hlt2;have d4:=hct _ hbw;have gt:t[k]?=some (t.getD k 0):=by simp[hlt2]
   generalize t.getD k 0=y at d4 gt;have HG:=Lib.hid (show(t.zip r)[k]?=some (y,x)from by rw[List.getElem?_zip_eq_some];exact⟨gt,hx⟩);have HFO:=Lib.hid (show fitOne (y,x)=(x.k==0||x.k==y)from rfl);clear hx hc hct gt;subst hAt;have k0:(0:Int)≤(k:Int):=by omega
   have k1:(k:Int)<(t.length:Int):=by omega
   have k2:(k:Int)<(r.length:Int):=by omega
   cases hq:(x.k==0)
   ·have hq2:=bne_of hq
    simp only[Bool.not_false]at hq2;cases hz:(x.k==y)
    ·have hz2:=bne_of hz
     simp only[Bool.not_false]at hz2;have e1:=Lib.hid (all_no (f:=fitOne) HG.out (by rw[HFO.out,hq,hz];rfl));have EE:Hid (R=5):=Lib.hid (by rw[HR.out,e1.out];rfl)
     go_wp2_with fail
     go_quiet (fail)
     go_wp2;go_ret;exact⟨ret_int (by rw[EE.out]),below_drewN hbw _⟩
    ·have hz2:=bne_of hz
     simp only[Bool.not_true]at hz2;have e1:=Lib.hid (all_step (f:=fitOne) H.out HG.out (by rw[HFO.out,hz,Bool.or_true]))
     go_wp2_with fail
     go_quiet (fail)
     go_wp2;go_roundw
     case rel=>exact⟨k+1,by omega,by go_num,e1.out,below_drewN hbw _⟩
     case measure=>simp[intOf];omega
   ·have hq2:=bne_of hq
    simp only[Bool.not_true]at hq2;have e1:=Lib.hid (all_step (f:=fitOne) H.out HG.out (by rw[HFO.out,hq,Bool.true_or]))
    go_wp2_with fail
    go_quiet (fail)
    go_wp2;go_roundw
    case rel=>exact⟨k+1,by omega,by go_num,e1.out,below_drewN hbw _⟩
    case measure=>simp[intOf];omega
  ·obtain rfl:k=r.length:=by omega
   have e1:=Lib.hid (show allB fitOne (t.zip r)=true from all_yes (by
    have hzl:(t.zip r).length=r.length:=by rw[List.length_zip];omega
    rw[hzl];exact H.out))
   have EE:Hid (R=0):=Lib.hid (by rw[HR.out,e1.out];rfl);go_wp2;go_ret;exact⟨ret_int (by rw[EE.out]),hbw⟩
theorem keyErr_few {l:List Val}(h:l.length≤8):keyErr l=firstNZ (l.map checkV):=if_neg (by omega)
set_option maxHeartbeats 8000000 in
set_option maxRecDepth 10000 in
theorem rowError_any (p:Pl)(side:Int)(v:Value)(r:List Val)(w:World)(h:p.ok w)(hs:p.short)(hr:Sl w v r.length (rowCells r))(hsm:Small r):
 Calls Tryz.prog 40 #[.agg #[.int .i64 p.kind,.int .i64 p.mode,.int .i64 p.low,.int .i64 p.high,.int .i64 p.size,.int .i64 p.limit,p.vl,p.vr,p.vk,p.vq,.bool p.grouped,p.vg,p.va],.int .i64 side,v] w fun e w'=>e= .returned (.int .i64 (rowE p side r))∧Below w.heap.size w w':=by
 have HE:Hid (rowE p side r=if side=1∨side=2 then if r.length=(sideT p side).length then if firstNZ (r.map checkV)=0 then if allB fitOne ((sideT p side).zip r)then 0 else 5 else firstNZ (r.map checkV)else 2 else 4):=Lib.hid rfl;obtain⟨l1,l2,r1,r2,-⟩:=hs;have HL:=Lib.hid h.l;have HR:=Lib.hid h.r;have HV:=Lib.hid hr;have HSM:=Lib.hid hsm;clear h hsm;generalize rowE p side r=R at HE⊢;have HS:Hid (side=1→sideT p side=p.left):=Lib.hid (by rintro rfl;exact side_one p);have HS':Hid (side=2→sideT p side=p.right):=Lib.hid (by rintro rfl;exact side_two p);generalize sideT p side=t at HE HS HS';obtain⟨kind,mode,low,high,size,limit,vl,vr,vk,vq,grouped,vg,va,left,right,lkeys,rkeys,group,aggs⟩:=p;simp only at HE HL HR HS HS' l1 l2 r1 r2⊢;obtain⟨A0,c0,rfl,n0,m0,-⟩:=id HL.out;obtain⟨A1,c1,rfl,n1,m1,-⟩:=id HR.out;obtain⟨A,c,rfl,n2,m2,-⟩:=hr;unfold maxLen at m0 m1 m2;have hB:=below_alloc w (.cells #[.int .i64 kind,.int .i64 mode,.int .i64 low,.int .i64 high,.int .i64 size,.int .i64 limit,.slice A0 left.length c0,.slice A1 right.length c1,vk,vq,.bool grouped,vg,va] 25);by_cases hs1:side=1
 ·have b1:=beqT hs1
  have b1':=bne_of b1;simp only[Bool.not_true]at b1';have b1b:(side==2)=false:=beqF (by omega);have HE3:=Lib.hid (HE.out.trans (if_pos (.inl hs1)));obtain rfl:=HS.out hs1;have HTT:=HL;clear HE HS HS' hs1;by_cases hlen:r.length=t.length
  ·have HE4:=Lib.hid (HE3.out.trans (if_pos hlen))
   have b2:((r.length:Int)==(t.length:Int))=true:=by simp[hlen]
   have b2':=bne_of b2;simp only[Bool.not_true]at b2';have HLE:=Lib.hid hlen;have HKE:=Lib.hid (keyErr_few (l:=r) (by omega));clear HE3 hlen;go_enter Tryz.func40,Tryz.ntmps40
   go_wp2_with fail
   refine(keyError_any _ r _ (HV.out.below hB) HSM.out).mono ?_;rw[HKE.out];rintro e w1 ⟨rfl,hb1⟩;have B1:=below_trans hB hb1;by_cases hz:firstNZ (r.map checkV)=0
   ·have HE5:Hid (R=if allB fitOne (t.zip r)then 0 else 5):=Lib.hid (by rw[HE4.out,hz];rfl)
    have z1:=beqT hz;have z2:=bne_of z1;simp only[Bool.not_true]at z2;clear HE4 hz
    go_wp2_with fail
    refine(fitsTypes_any _ _ t r _ (HTT.out.below B1) (HV.out.below B1) HLE.out).mono ?_;rw[←HE5.out];rintro e w2 ⟨rfl,hb2⟩;go_wp2;go_ret;exact⟨rfl,below_trans B1 hb2⟩
   ·have EE:Hid (R=firstNZ (r.map checkV)):=Lib.hid (by rw[HE4.out,if_neg hz])
    have z1:=beqF hz;have z2:=bne_of z1;simp only[Bool.not_false]at z2;clear HE4 hz;go_wp2;go_ret;exact⟨ret_int (by rw[EE.out]),B1⟩
  ·have EE:Hid (R=2):=Lib.hid (HE3.out.trans (if_neg hlen))
   have b2:((r.length:Int)==(t.length:Int))=false:=by simp;omega
   have b2':=bne_of b2;simp only[Bool.not_false]at b2';clear HE3 hlen;go_enter Tryz.func40,Tryz.ntmps40
   go_wp2;go_ret;exact⟨ret_int (by rw[EE.out]),hB⟩
 ·by_cases hs2:side=2
  ·have b1b:=beqT hs2
   have HE3:=Lib.hid (HE.out.trans (if_pos (.inr hs2)));obtain rfl:=HS'.out hs2;have HTT:=HR;clear HE HS HS' hs1 hs2;by_cases hlen:r.length=t.length
   ·have HE4:=Lib.hid (HE3.out.trans (if_pos hlen))
    have b2:((r.length:Int)==(t.length:Int))=true:=by simp[hlen]
    have b2':=bne_of b2;simp only[Bool.not_true]at b2';have HLE:=Lib.hid hlen;have HKE:=Lib.hid (keyErr_few (l:=r) (by omega));clear HE3 hlen;go_enter Tryz.func40,Tryz.ntmps40
    go_wp2_with fail
    refine(keyError_any _ r _ (HV.out.below hB) HSM.out).mono ?_;rw[HKE.out];rintro e w1 ⟨rfl,hb1⟩;have B1:=below_trans hB hb1;by_cases hz:firstNZ (r.map checkV)=0
    ·have HE5:Hid (R=if allB fitOne (t.zip r)then 0 else 5):=Lib.hid (by rw[HE4.out,hz];rfl)
     have z1:=beqT hz;have z2:=bne_of z1;simp only[Bool.not_true]at z2;clear HE4 hz
     go_wp2_with fail
     refine(fitsTypes_any _ _ t r _ (HTT.out.below B1) (HV.out.below B1) HLE.out).mono ?_;rw[←HE5.out];rintro e w2 ⟨rfl,hb2⟩;go_wp2;go_ret;exact⟨rfl,below_trans B1 hb2⟩
    ·have EE:Hid (R=firstNZ (r.map checkV)):=Lib.hid (by rw[HE4.out,if_neg hz])
     have z1:=beqF hz;have z2:=bne_of z1;simp only[Bool.not_false]at z2;clear HE4 hz;go_wp2;go_ret;exact⟨ret_int (by rw[EE.out]),B1⟩
   ·have EE:Hid (R=2):=Lib.hid (HE3.out.trans (if_neg hlen))
    have b2:((r.length:Int)==(t.length:Int))=false:=by simp;omega
    have b2':=bne_of b2;simp only[Bool.not_false]at b2';clear HE3 hlen;go_enter Tryz.func40,Tryz.ntmps40
    go_wp2;go_ret;exact⟨ret_int (by rw[EE.out]),hB⟩
  ·have b1:=beqF hs1
   have b1':=bne_of b1;simp only[Bool.not_false]at b1';have b1b:=beqF hs2;have EE:Hid (R=4):=Lib.hid (HE.out.trans (if_neg (by rintro(h|h);exact hs1 h;exact hs2 h)));clear HE HS HS' hs1 hs2;go_enter Tryz.func40,Tryz.ntmps40
   go_wp2;go_ret;exact⟨ret_int (by rw[EE.out]),hB⟩
end Go.Proofs.YtjhbeecmdgglgaaGreatDoor
namespace Go.Proofs.YtjhbeecmdgglgaaGreatDoor
open Go.RowKit Go.Maps
theorem one_val (W:World)(x:Val):Sl (W.alloc (.cells #[.int .i64 x.k,.int .i64 x.n,.string x.s] 68)) (.slice (some ⟨W.heap.size,0,none⟩) 1 1) 1 x.cells:=Sl.block (Blk.new W 68 #[.int .i64 x.k,.int .i64 x.n,.string x.s]) 1 1 (Nat.le_refl _) (by decide)
theorem rowCells_app (a b:List Val):rowCells (a++b)=rowCells a++rowCells b:=List.flatMap_append
theorem rowCells_step {t:List Val}{x:Val}:rowCells t++x.cells=rowCells (t++[x]):=by rw[rowCells_app];simp[rowCells]
def noVal:Val:=⟨0,0,⟨#[]⟩⟩
def pickV (r:List Val) (c:Int):Val:=r.getD c.toNat noVal
def colsT (p:Pl) (side:Int):List Int:=if side=2 then p.rkeys else p.lkeys
def keyFor (p:Pl) (side:Int) (r:List Val):ByteArray×Bool:=
 if allB (fun x:Val=>x.k != 0) ((colsT p side).map (pickV r))then(str (keyRow ((colsT p side).map (pickV r))),true)else(⟨#[]⟩,false)
def keyOfR (p:Pl) (side:Int) (r:List Val):ByteArray×Bool:=if rowR p side r=0 then keyFor p side r else(⟨#[]⟩,false)
theorem firstNZ_all {l:List Val}(h:firstNZ (l.map checkV)=0): ∀x∈l,checkV x=0:=by
 intro x hx;unfold firstNZ at h;cases hf:(l.map checkV).find? (fun n=>n != 0)with
 |none=>
  rw[List.find?_eq_none]at hf;have:=hf (checkV x) (List.mem_map.2 ⟨x,hx,rfl⟩);simpa using this
 |some y=>
  rw[hf]at h;have:=List.find?_some hf;simp at this h;exact absurd h this
theorem keyErr_okP {l:List Val}(h8:l.length≤8)(h: ∀x∈l,checkV x=0):keyErr l=0:=by
 rw[keyErr_few h8];exact firstNZ_none (by intro y hy;obtain⟨x,hx,rfl⟩:=List.mem_map.1 hy;exact h x hx)
structure RowFine (p:Pl) (side:Int) (r:List Val):Prop where
 sides:side=1∨side=2
 short:p.short
 len:r.length≤4
 good: ∀x∈r,checkV x=0
 cols: ∀c∈colsT p side,0≤c∧c<r.length
 few:(colsT p side).length≤4
 one:side=1→colsT p side=p.lkeys
 two:side=2→colsT p side=p.rkeys
theorem rowE_fine {p:Pl}{side:Int}{r:List Val}(hz:checkP p=0)(h:rowE p side r=0):RowFine p side r:=by
 unfold rowE at h;have hok:=check_ok hz;have hs:=counts_short hok.2.2.1;have hform:=hok.2.2.2.2;unfold formB at hform;simp only[Bool.and_eq_true]at hform;by_cases h1:side=1∨side=2
 ·rw[if_pos h1]at h
  by_cases h2:r.length=(sideT p side).length
  ·rw[if_pos h2]at h
   by_cases h3:firstNZ (r.map checkV)=0
   ·refine⟨h1,hs,?_,firstNZ_all h3,?_,?_,?_,?_⟩
    ·rcases h1 with rfl|rfl
     ·rw[side_one]at h2;have:=hs.l2;omega
     ·rw[side_two]at h2;have:=hs.r2;omega
    ·rcases h1 with rfl|rfl
     ·rw[side_one]at h2
      rw[h2];exact unl_range hform.2.2.1
     ·rw[side_two]at h2
      rw[h2];exact unl_range hform.2.2.2.1
    ·rcases h1 with rfl|rfl
     ·exact hs.k2
     ·exact hs.q2
    ·rintro rfl;rfl
    ·rintro rfl;rfl
   ·rw[if_neg h3]at h;exact absurd h h3
  ·rw[if_neg h2]at h;exact absurd h (by decide)
 ·rw[if_neg h1]at h;exact absurd h (by decide)
theorem rowR_fine {p:Pl}{side:Int}{r:List Val}(h:rowR p side r=0):RowFine p side r:=by
 unfold rowR at h;by_cases hz:checkP p=0
 ·rw[if_pos hz]at h;exact rowE_fine hz h
 ·rw[if_neg hz]at h;exact absurd h hz
theorem picked_fine {p:Pl}{side:Int}{r:List Val}(h:RowFine p side r)(hf:Fine r):Fine ((colsT p side).map (pickV r))∧keyErr ((colsT p side).map (pickV r))=0:=by
 have hin: ∀y∈(colsT p side).map (pickV r),y∈r:=by
  intro y hy;obtain⟨c,hc,rfl⟩:=List.mem_map.1 hy;have:=h.cols c hc;have hlt:c.toNat<r.length:=by omega
  unfold pickV;rw[List.getD_eq_getElem?_getD,List.getElem?_eq_getElem hlt];exact List.getElem_mem hlt
 refine⟨⟨fun x hx=>hf.small x (hin x hx),fun x hx=>hf.nums x (hin x hx)⟩,keyErr_okP ?_ fun x hx=>h.good x (hin x hx)⟩;have:=h.few;rw[List.length_map];omega
theorem pick_at {r:List Val}{m:Nat}(h:m<r.length):r[m]?=some (pickV r (m:Int)):=by
 unfold pickV;rw[show((m:Int)).toNat=m from by omega,List.getD_eq_getElem?_getD,List.getElem?_eq_getElem h];rfl
end Go.Proofs.YtjhbeecmdgglgaaGreatDoor
