/-Plans: the reference's RowError. Plans: KeyOf, and the reference's KeyFor. Plans: the reference's KeyFor. Plans: KeyOf. Plans: the reference's wrongMa -/
import Derived.Test.YtjhbeecmdgglgaaGreatDoorGrpX8
import Derived.Test.YtjhbeecmdgglgaaGreatDoorGrpX7
set_option linter.unusedSimpArgs false
set_option linter.unusedVariables false
namespace Go.Proofs.YtjhbeecmdgglgaaGreatDoor
open Go.RowKit Go.Maps
set_option maxHeartbeats 8000000 in
set_option maxRecDepth 10000 in
theorem fitsTypes_any (vt v:Value)(t:List Int)(r:List Val)(w:World)(ht:Sl w vt t.length (intCells t))(hr:Sl w v r.length (rowCells r))(hl:r.length=t.length):
 Calls Tryz.prog 65 #[vt,v] w fun e w'=>e= .returned (.int .i64 (if allB fitOne (t.zip r)then 0 else 5))∧Below w.heap.size w w':=by
 have HTT:=Lib.hid ht;have HV:=Lib.hid hr;obtain⟨A0,c0,rfl,n0,m0,-⟩:=ht;obtain⟨A,c,rfl,n2,m2,-⟩:=hr;unfold maxLen at m0 m2;obtain⟨R,hR⟩: ∃R:Int,R=if allB fitOne (t.zip r)then 0 else 5:=⟨_,rfl⟩
 rw[←hR];have HR:=Lib.hid hR;have b2:((r.length:Int)==(t.length:Int))=true:=by simp[hl]
 have b2':=bne_of b2;simp only[Bool.not_true]at b2';have HLE:=Lib.hid hl;have hle:r.length≤t.length:=by omega
 clear hl hR;go_enter Tryz.func65,Tryz.ntmps65
 go_wp2_with fail
 go_loopw[5] (fun i wr=> ∃k:Nat,k≤r.length∧i= .int .i64 k∧Hid (∀x∈(t.zip r).take k,fitOne x=true)∧Below w.heap.size w wr) (fun i _=>r.length-(intOf i).toNat)
 case atStart=>exact⟨0,by omega,rfl,by simp[Hid],Below.refl _ _⟩
 case round=>
  obtain⟨k,hk,rfl,H,hbw⟩:=hrel;by_cases hlt:k<r.length
  ·have hx:=List.getElem?_eq_getElem (l:=r) hlt
   generalize r[k]=x at hx;obtain⟨g,off,rfl,-,hc⟩:=val_at HV.out rfl hx;obtain⟨d1,d2,d3⟩:=hc _ hbw;have hlt2:k<t.length:=by omega
   obtain⟨bt,ot,hAt,-,hct⟩:=int_at HTT.out rfl hlt2;have d4:=hct _ hbw;have gt:t[k]?=some (t.getD k 0):=by simp[hlt2]
   generalize t.getD k 0=y at d4 gt;have HG:=Lib.hid (show(t.zip r)[k]?=some (y,x)from by rw[List.getElem?_zip_eq_some];exact⟨gt,hx⟩);have HFO:=Lib.hid (show fitOne (y,x)=(x.k==0||x.k==y)from rfl);clear hx hc hct gt;subst hAt;have k0:(0:Int)≤(k:Int):=by omega
   have k1:(k:Int)<(t.length:Int):=by omega
   have k2:(k:Int)<(r.length:Int):=by omega
   cases hq:(x.k==0)
   ·have hq2:=bne_of hq
    simp only[Bool.not_false]at hq2;cases hz:(x.k==y)
    ·have hz2:=bne_of hz
     simp only[Bool.not_false]at hz2;have e1:=Lib.hid (all_no (f:=fitOne) HG.out (by rw[HFO.out,hq,hz];rfl));have EE:Hid (R=5):=Lib.hid (by rw[HR.out,e1.out];rfl)
     go_wp2_with fail
     go_quiet (fail)
     go_wp2;go_ret;exact⟨ret_int (by rw[EE.out]),below_drewN hbw _⟩
    ·have hz2:=bne_of hz
     simp only[Bool.not_true]at hz2;have e1:=Lib.hid (all_step (f:=fitOne) H.out HG.out (by rw[HFO.out,hz,Bool.or_true]))
     go_wp2_with fail
     go_quiet (fail)
     go_wp2;go_roundw
     case rel=>exact⟨k+1,by omega,by go_num,e1.out,below_drewN hbw _⟩
     case measure=>simp[intOf];omega
   ·have hq2:=bne_of hq
    simp only[Bool.not_true]at hq2;have e1:=Lib.hid (all_step (f:=fitOne) H.out HG.out (by rw[HFO.out,hq,Bool.true_or]))
    go_wp2_with fail
    go_quiet (fail)
    go_wp2;go_roundw
    case rel=>exact⟨k+1,by omega,by go_num,e1.out,below_drewN hbw _⟩
    case measure=>simp[intOf];omega
  ·obtain rfl:k=r.length:=by omega
   have e1:=Lib.hid (show allB fitOne (t.zip r)=true from all_yes (by
    have hzl:(t.zip r).length=r.length:=by rw[List.length_zip];omega
    rw[hzl];exact H.out))
   have EE:Hid (R=0):=Lib.hid (by rw[HR.out,e1.out];rfl);go_wp2;go_ret;exact⟨ret_int (by rw[EE.out]),hbw⟩
theorem keyErr_few {l:List Val}(h:l.length≤8):keyErr l=firstNZ (l.map checkV):=if_neg (by omega)
set_option maxHeartbeats 8000000 in
set_option maxRecDepth 10000 in
theorem rowError_any (p:Pl)(side:Int)(v:Value)(r:List Val)(w:World)(h:p.ok w)(hs:p.short)(hr:Sl w v r.length (rowCells r))(hsm:Small r):
 Calls Tryz.prog 40 #[.agg #[.int .i64 p.kind,.int .i64 p.mode,.int .i64 p.low,.int .i64 p.high,.int .i64 p.size,.int .i64 p.limit,p.vl,p.vr,p.vk,p.vq,.bool p.grouped,p.vg,p.va],.int .i64 side,v] w fun e w'=>e= .returned (.int .i64 (rowE p side r))∧Below w.heap.size w w':=by
 have HE:Hid (rowE p side r=if side=1∨side=2 then if r.length=(sideT p side).length then if firstNZ (r.map checkV)=0 then if allB fitOne ((sideT p side).zip r)then 0 else 5 else firstNZ (r.map checkV)else 2 else 4):=Lib.hid rfl;obtain⟨l1,l2,r1,r2,-⟩:=hs;have HL:=Lib.hid h.l;have HR:=Lib.hid h.r;have HV:=Lib.hid hr;have HSM:=Lib.hid hsm;clear h hsm;generalize rowE p side r=R at HE⊢;have HS:Hid (side=1→sideT p side=p.left):=Lib.hid (by rintro rfl;exact side_one p);have HS':Hid (side=2→sideT p side=p.right):=Lib.hid (by rintro rfl;exact side_two p);generalize sideT p side=t at HE HS HS';obtain⟨kind,mode,low,high,size,limit,vl,vr,vk,vq,grouped,vg,va,left,right,lkeys,rkeys,group,aggs⟩:=p;simp only at HE HL HR HS HS' l1 l2 r1 r2⊢;obtain⟨A0,c0,rfl,n0,m0,-⟩:=id HL.out;obtain⟨A1,c1,rfl,n1,m1,-⟩:=id HR.out;obtain⟨A,c,rfl,n2,m2,-⟩:=hr;unfold maxLen at m0 m1 m2;have hB:=below_alloc w (.cells #[.int .i64 kind,.int .i64 mode,.int .i64 low,.int .i64 high,.int .i64 size,.int .i64 limit,.slice A0 left.length c0,.slice A1 right.length c1,vk,vq,.bool grouped,vg,va] 25);by_cases hs1:side=1
 ·have b1:=beqT hs1
  have b1':=bne_of b1;simp only[Bool.not_true]at b1';have b1b:(side==2)=false:=beqF (by omega);have HE3:=Lib.hid (HE.out.trans (if_pos (.inl hs1)));obtain rfl:=HS.out hs1;have HTT:=HL;clear HE HS HS' hs1;by_cases hlen:r.length=t.length
  ·have HE4:=Lib.hid (HE3.out.trans (if_pos hlen))
   have b2:((r.length:Int)==(t.length:Int))=true:=by simp[hlen]
   have b2':=bne_of b2;simp only[Bool.not_true]at b2';have HLE:=Lib.hid hlen;have HKE:=Lib.hid (keyErr_few (l:=r) (by omega));clear HE3 hlen;go_enter Tryz.func40,Tryz.ntmps40
   go_wp2_with fail
   refine(keyError_any _ r _ (HV.out.below hB) HSM.out).mono ?_;rw[HKE.out];rintro e w1 ⟨rfl,hb1⟩;have B1:=below_trans hB hb1;by_cases hz:firstNZ (r.map checkV)=0
   ·have HE5:Hid (R=if allB fitOne (t.zip r)then 0 else 5):=Lib.hid (by rw[HE4.out,hz];rfl)
    have z1:=beqT hz;have z2:=bne_of z1;simp only[Bool.not_true]at z2;clear HE4 hz
    go_wp2_with fail
    refine(fitsTypes_any _ _ t r _ (HTT.out.below B1) (HV.out.below B1) HLE.out).mono ?_;rw[←HE5.out];rintro e w2 ⟨rfl,hb2⟩;go_wp2;go_ret;exact⟨rfl,below_trans B1 hb2⟩
   ·have EE:Hid (R=firstNZ (r.map checkV)):=Lib.hid (by rw[HE4.out,if_neg hz])
    have z1:=beqF hz;have z2:=bne_of z1;simp only[Bool.not_false]at z2;clear HE4 hz;go_wp2;go_ret;exact⟨ret_int (by rw[EE.out]),B1⟩
  ·have EE:Hid (R=2):=Lib.hid (HE3.out.trans (if_neg hlen))
   have b2:((r.length:Int)==(t.length:Int))=false:=by simp;omega
   have b2':=bne_of b2;simp only[Bool.not_false]at b2';clear HE3 hlen;go_enter Tryz.func40,Tryz.ntmps40
   go_wp2;go_ret;exact⟨ret_int (by rw[EE.out]),hB⟩
 ·by_cases hs2:side=2
  ·have b1b:=beqT hs2
   have HE3:=Lib.hid (HE.out.trans (if_pos (.inr hs2)));obtain rfl:=HS'.out hs2;have HTT:=HR;clear HE HS HS' hs1 hs2;by_cases hlen:r.length=t.length
   ·have HE4:=Lib.hid (HE3.out.trans (if_pos hlen))
    have b2:((r.length:Int)==(t.length:Int))=true:=by simp[hlen]
    have b2':=bne_of b2;simp only[Bool.not_true]at b2';have HLE:=Lib.hid hlen;have HKE:=Lib.hid (keyErr_few (l:=r) (by omega));clear HE3 hlen;go_enter Tryz.func40,Tryz.ntmps40
    go_wp2_with fail
    refine(keyError_any _ r _ (HV.out.below hB) HSM.out).mono ?_;rw[HKE.out];rintro e w1 ⟨rfl,hb1⟩;have B1:=below_trans hB hb1;by_cases hz:firstNZ (r.map checkV)=0
    ·have HE5:Hid (R=if allB fitOne (t.zip r)then 0 else 5):=Lib.hid (by rw[HE4.out,hz];rfl)
     have z1:=beqT hz;have z2:=bne_of z1;simp only[Bool.not_true]at z2;clear HE4 hz
     go_wp2_with fail
     refine(fitsTypes_any _ _ t r _ (HTT.out.below B1) (HV.out.below B1) HLE.out).mono ?_;rw[←HE5.out];rintro e w2 ⟨rfl,hb2⟩;go_wp2;go_ret;exact⟨rfl,below_trans B1 hb2⟩
    ·have EE:Hid (R=firstNZ (r.map checkV)):=Lib.hid (by rw[HE4.out,if_neg hz])
     have z1:=beqF hz;have z2:=bne_of z1;simp only[Bool.not_false]at z2;clear HE4 hz;go_wp2;go_ret;exact⟨ret_int (by rw[EE.out]),B1⟩
   ·have EE:Hid (R=2):=Lib.hid (HE3.out.trans (if_neg hlen))
    have b2:((r.length:Int)==(t.length:Int))=false:=by simp;omega
    have b2':=bne_of b2;simp only[Bool.not_false]at b2';clear HE3 hlen;go_enter Tryz.func40,Tryz.ntmps40
    go_wp2;go_ret;exact⟨ret_int (by rw[EE.out]),hB⟩
  ·have b1:=beqF hs1
   have b1':=bne_of b1;simp only[Bool.not_false]at b1';have b1b:=beqF hs2;have EE:Hid (R=4):=Lib.hid (HE.out.trans (if_neg (by rintro(h|h);exact hs1 h;exact hs2 h)));clear HE HS HS' hs1 hs2;go_enter Tryz.func40,Tryz.ntmps40
   go_wp2;go_ret;exact⟨ret_int (by rw[EE.out]),hB⟩
end Go.Proofs.YtjhbeecmdgglgaaGreatDoor
namespace Go.Proofs.YtjhbeecmdgglgaaGreatDoor
open Go.RowKit Go.Maps
theorem one_val (W:World)(x:Val):Sl (W.alloc (.cells #[.int .i64 x.k,.int .i64 x.n,.string x.s] 68)) (.slice (some ⟨W.heap.size,0,none⟩) 1 1) 1 x.cells:=Sl.block (Blk.new W 68 #[.int .i64 x.k,.int .i64 x.n,.string x.s]) 1 1 (Nat.le_refl _) (by decide)
theorem rowCells_app (a b:List Val):rowCells (a++b)=rowCells a++rowCells b:=List.flatMap_append
theorem rowCells_step {t:List Val}{x:Val}:rowCells t++x.cells=rowCells (t++[x]):=by rw[rowCells_app];simp[rowCells]
def noVal:Val:=⟨0,0,⟨#[]⟩⟩
def pickV (r:List Val) (c:Int):Val:=r.getD c.toNat noVal
def colsT (p:Pl) (side:Int):List Int:=if side=2 then p.rkeys else p.lkeys
def keyFor (p:Pl) (side:Int) (r:List Val):ByteArray×Bool:=
 if allB (fun x:Val=>x.k != 0) ((colsT p side).map (pickV r))then(str (keyRow ((colsT p side).map (pickV r))),true)else(⟨#[]⟩,false)
def keyOfR (p:Pl) (side:Int) (r:List Val):ByteArray×Bool:=if rowR p side r=0 then keyFor p side r else(⟨#[]⟩,false)
theorem firstNZ_all {l:List Val}(h:firstNZ (l.map checkV)=0): ∀x∈l,checkV x=0:=by
 intro x hx;unfold firstNZ at h;cases hf:(l.map checkV).find? (fun n=>n != 0)with
 |none=>
  rw[List.find?_eq_none]at hf;have:=hf (checkV x) (List.mem_map.2 ⟨x,hx,rfl⟩);simpa using this
 |some y=>
  rw[hf]at h;have:=List.find?_some hf;simp at this h;exact absurd h this
theorem keyErr_okP {l:List Val}(h8:l.length≤8)(h: ∀x∈l,checkV x=0):keyErr l=0:=by
 rw[keyErr_few h8];exact firstNZ_none (by intro y hy;obtain⟨x,hx,rfl⟩:=List.mem_map.1 hy;exact h x hx)
structure RowFine (p:Pl) (side:Int) (r:List Val):Prop where
 sides:side=1∨side=2
 short:p.short
 len:r.length≤4
 good: ∀x∈r,checkV x=0
 cols: ∀c∈colsT p side,0≤c∧c<r.length
 few:(colsT p side).length≤4
 one:side=1→colsT p side=p.lkeys
 two:side=2→colsT p side=p.rkeys
theorem rowE_fine {p:Pl}{side:Int}{r:List Val}(hz:checkP p=0)(h:rowE p side r=0):RowFine p side r:=by
 unfold rowE at h;have hok:=check_ok hz;have hs:=counts_short hok.2.2.1;have hform:=hok.2.2.2.2;unfold formB at hform;simp only[Bool.and_eq_true]at hform;by_cases h1:side=1∨side=2
 ·rw[if_pos h1]at h
  by_cases h2:r.length=(sideT p side).length
  ·rw[if_pos h2]at h
   by_cases h3:firstNZ (r.map checkV)=0
   ·refine⟨h1,hs,?_,firstNZ_all h3,?_,?_,?_,?_⟩
    ·rcases h1 with rfl|rfl
     ·rw[side_one]at h2;have:=hs.l2;omega
     ·rw[side_two]at h2;have:=hs.r2;omega
    ·rcases h1 with rfl|rfl
     ·rw[side_one]at h2
      rw[h2];exact unl_range hform.2.2.1
     ·rw[side_two]at h2
      rw[h2];exact unl_range hform.2.2.2.1
    ·rcases h1 with rfl|rfl
     ·exact hs.k2
     ·exact hs.q2
    ·rintro rfl;rfl
    ·rintro rfl;rfl
   ·rw[if_neg h3]at h;exact absurd h h3
  ·rw[if_neg h2]at h;exact absurd h (by decide)
 ·rw[if_neg h1]at h;exact absurd h (by decide)
theorem rowR_fine {p:Pl}{side:Int}{r:List Val}(h:rowR p side r=0):RowFine p side r:=by
 unfold rowR at h;by_cases hz:checkP p=0
 ·rw[if_pos hz]at h;exact rowE_fine hz h
 ·rw[if_neg hz]at h;exact absurd h hz
theorem picked_fine {p:Pl}{side:Int}{r:List Val}(h:RowFine p side r)(hf:Fine r):Fine ((colsT p side).map (pickV r))∧keyErr ((colsT p side).map (pickV r))=0:=by
 have hin: ∀y∈(colsT p side).map (pickV r),y∈r:=by
  intro y hy;obtain⟨c,hc,rfl⟩:=List.mem_map.1 hy;have:=h.cols c hc;have hlt:c.toNat<r.length:=by omega
  unfold pickV;rw[List.getD_eq_getElem?_getD,List.getElem?_eq_getElem hlt];exact List.getElem_mem hlt
 refine⟨⟨fun x hx=>hf.small x (hin x hx),fun x hx=>hf.nums x (hin x hx)⟩,keyErr_okP ?_ fun x hx=>h.good x (hin x hx)⟩;have:=h.few;rw[List.length_map];omega
theorem pick_at {r:List Val}{m:Nat}(h:m<r.length):r[m]?=some (pickV r (m:Int)):=by
 unfold pickV;rw[show((m:Int)).toNat=m from by omega,List.getD_eq_getElem?_getD,List.getElem?_eq_getElem h];rfl
end Go.Proofs.YtjhbeecmdgglgaaGreatDoor
namespace Go.Proofs.YtjhbeecmdgglgaaGreatDoor
open Go.RowKit Go.Maps
set_option maxHeartbeats 2000000 in
set_option maxRecDepth 10000 in
theorem keyFor_any (p:Pl)(side:Int)(v:Value)(r:List Val)(w:World)(h:p.ok w)(hr:Sl w v r.length (rowCells r))(hf:Fine r)(hrow:RowFine p side r):
 Calls Tryz.prog 94 #[.agg #[.int .i64 p.kind,.int .i64 p.mode,.int .i64 p.low,.int .i64 p.high,.int .i64 p.size,.int .i64 p.limit,p.vl,p.vr,p.vk,p.vq,.bool p.grouped,p.vg,p.va],.int .i64 side,v] w fun e w'=>e= .returned (.tuple #[.string (keyFor p side r).1,.bool (keyFor p side r).2])∧Below w.heap.size w w':=by
 have HE:Hid (keyFor p side r=if allB (fun x:Val=>x.k != 0) ((colsT p side).map (pickV r))then(str (keyRow ((colsT p side).map (pickV r))),true)else(⟨#[]⟩,false)):=Lib.hid rfl;have HPF:=Lib.hid (picked_fine hrow hf);have HCO:=Lib.hid hrow.cols;have HFW:=hrow.few;have HSD:=hrow.sides;have HS:=Lib.hid hrow.one;have HS':=Lib.hid hrow.two;have HL:=Lib.hid h.k;have HR:=Lib.hid h.q;have HV:=Lib.hid hr;clear h hf hrow;generalize keyFor p side r=R at HE⊢;generalize colsT p side=t at HE HS HS' HPF HCO HFW;obtain⟨kind,mode,low,high,size,limit,vl,vr,vk,vq,grouped,vg,va,left,right,lkeys,rkeys,group,aggs⟩:=p;simp only at HE HL HR HS HS' HPF HCO HFW⊢;obtain⟨A0,c0,rfl,n0,m0,-⟩:=id HL.out;obtain⟨A1,c1,rfl,n1,m1,-⟩:=id HR.out;obtain⟨A,c,rfl,n2,m2,-⟩:=hr;unfold maxLen at m0 m1 m2;have B1:=below_alloc w (.cells #[.int .i64 kind,.int .i64 mode,.int .i64 low,.int .i64 high,.int .i64 size,.int .i64 limit,vl,vr,.slice A0 lkeys.length c0,.slice A1 rkeys.length c1,.bool grouped,vg,va] 25);have HE2:=HE;obtain⟨s,hss⟩: ∃s,t.map (pickV r)=s:=⟨_,rfl⟩;rw[hss]at HPF HE2;have HSS:=Lib.hid hss;have hsl:s.length=t.length:=by rw[←hss,List.length_map]
 clear hss HE;rcases HSD with hs|hs
 ·have b1:(side==2)=false:=beqF (by omega)
  obtain rfl:=HS.out hs;have HTT:=HL;clear HS HS' hs;go_enter Tryz.func94,Tryz.ntmps94
  go_wp2_with fail
  go_loopw[9,10] (fun out i wr=> ∃(k:Nat) (u:Value),u=out∧k≤t.length∧i= .int .i64 k∧Hid (∀x∈s.take k,(x.k != 0)=true)∧wr.ownsRow w.heap.size 68 3 u k (rowCells (s.take k))∧Below w.heap.size w wr) (fun _ i _=>t.length-(intOf i).toNat)
  case atStart=>exact⟨0,_,rfl,by omega,rfl,by simp[Hid],⟨rfl,.inl ⟨rfl,rfl⟩⟩,B1⟩
  case round=>
   obtain⟨k,u,rfl,hk,rfl,H,hown,hbw⟩:=hrel;have hBw:=hbw;by_cases hlt:k<t.length
   ·obtain⟨bt,ot,hAt,-,hct⟩:=int_at HTT.out rfl hlt
    have d0:=hct _ hBw;have gt:t[k]?=some (t.getD k 0):=by simp[hlt]
    generalize t.getD k 0=y at d0 gt;have ry:=HCO.out y (List.mem_of_getElem? gt);obtain⟨m,rfl⟩: ∃m:Nat,y=m:=⟨y.toNat,by omega⟩;have hm:m<r.length:=by omega
    have hx:=pick_at hm;have gs:s[k]?=some (pickV r (m:Int)):=by rw[←HSS.out,List.getElem?_map,gt];rfl
    have hst:s.take (k+1)=s.take k++[pickV r (m:Int)]:=by rw[List.take_add_one,gs];rfl
    generalize pickV r (m:Int)=x at hx hst gs;obtain⟨g,off,rfl,-,hc⟩:=val_at HV.out rfl hx;obtain⟨d1,d2,d3⟩:=hc _ hBw;have HST:=Lib.hid hst;have HM:=Lib.hid (List.mem_of_getElem? gs);clear hx hc hct gt hst ry gs;subst hAt;have m0':(0:Int)≤(m:Int):=by omega
    have m1':(m:Int)<(r.length:Int):=by omega
    cases hz:(x.k==0)
    ·have hz2:=bne_of hz
     simp only[Bool.not_false]at hz2
     go_wp2_with (at_builtin;refine wpList_app rfl (.tmp 32) (.tmp 40) 43 rfl w.heap.size 68 3 32 Tryz.underlying43 valJ _ k _ rfl (hown.alloc _) _ 1 x.cells rfl (one_val _ x) rfl (val_cell x) ?_ ?_ ?_ ?_)
     ·unfold maxLen;omega
     ·omega
     ·have:=hbw.size;simp;omega
     ·intro v2 w3 hown3 hg3 hat3
      have hbw3:=below_grown (hbw.alloc hbw.size (.cells #[.int .i64 x.k,.int .i64 x.n,.string x.s] 68)) hg3 (own_ge hown)
      have O3:Hid (w3.ownsRow w.heap.size 68 3 v2 (k+1) (rowCells (s.take (k+1)))):=by
       rw[rowCells_step,←HST.out]at hown3;exact hown3
      have HZ:Hid (∀x∈s.take (k+1),(x.k != 0)=true):=by
       rw[HST.out];intro z hzz;rcases List.mem_append.1 hzz with hzz|hzz
       ·exact H.out z hzz
       ·simp only[List.mem_singleton]at hzz;rw[hzz];exact hz2
      clear hown3 hg3 hat3 hown;go_wp2;go_roundw
      case rel=>exact⟨k+1,_,rfl,by omega,by go_num,HZ.out,O3.out,hbw3⟩
      case measure=>simp[intOf];omega
    ·have hz2:=bne_of hz
     simp only[Bool.not_true]at hz2
     have EE:Hid (R=(⟨#[]⟩,false)):=Lib.hid (by
      rw[HE2.out];refine if_neg ?_;rw[Bool.not_eq_true,allB,List.all_eq_false];exact⟨x,HM.out,by simp[hz2]⟩)
     clear hown;go_wp2
     go_ret2
     exact⟨by rw[EE.out];rfl,hBw⟩
   ·obtain rfl:k=t.length:=by omega
    have HO:=Lib.hid (Sl.of_own hown);clear hown;rw[List.take_of_length_le (by omega)]at HO H
    have EE:Hid (R=(str (keyRow s),true)):=Lib.hid (by
     rw[HE2.out];refine if_pos ?_;rw[allB,List.all_eq_true];exact H.out)
    have HO2:Hid (Sl wr u s.length (rowCells s)):=Lib.hid (by rw[hsl];exact HO.out)
    go_wp2_with fail
    refine(rkey_any u s _ HO2.out HPF.out.1 HPF.out.2).mono ?_;rintro e w2 ⟨rfl,hb2⟩;go_wp2
    go_ret2
    exact⟨by rw[EE.out];rfl,below_trans hBw hb2⟩
 ·have b1:=beqT hs
  obtain rfl:=HS'.out hs;have HTT:=HR;clear HS HS' hs;go_enter Tryz.func94,Tryz.ntmps94
  go_wp2_with fail
  go_loopw[9,10] (fun out i wr=> ∃(k:Nat) (u:Value),u=out∧k≤t.length∧i= .int .i64 k∧Hid (∀x∈s.take k,(x.k != 0)=true)∧wr.ownsRow w.heap.size 68 3 u k (rowCells (s.take k))∧Below w.heap.size w wr) (fun _ i _=>t.length-(intOf i).toNat)
  case atStart=>exact⟨0,_,rfl,by omega,rfl,by simp[Hid],⟨rfl,.inl ⟨rfl,rfl⟩⟩,B1⟩
  case round=>
   obtain⟨k,u,rfl,hk,rfl,H,hown,hbw⟩:=hrel;have hBw:=hbw;by_cases hlt:k<t.length
   ·obtain⟨bt,ot,hAt,-,hct⟩:=int_at HTT.out rfl hlt
    have d0:=hct _ hBw;have gt:t[k]?=some (t.getD k 0):=by simp[hlt]
    generalize t.getD k 0=y at d0 gt;have ry:=HCO.out y (List.mem_of_getElem? gt);obtain⟨m,rfl⟩: ∃m:Nat,y=m:=⟨y.toNat,by omega⟩;have hm:m<r.length:=by omega
    have hx:=pick_at hm;have gs:s[k]?=some (pickV r (m:Int)):=by rw[←HSS.out,List.getElem?_map,gt];rfl
    have hst:s.take (k+1)=s.take k++[pickV r (m:Int)]:=by rw[List.take_add_one,gs];rfl
    generalize pickV r (m:Int)=x at hx hst gs;obtain⟨g,off,rfl,-,hc⟩:=val_at HV.out rfl hx;obtain⟨d1,d2,d3⟩:=hc _ hBw;have HST:=Lib.hid hst;have HM:=Lib.hid (List.mem_of_getElem? gs);clear hx hc hct gt hst ry gs;subst hAt;have m0':(0:Int)≤(m:Int):=by omega
    have m1':(m:Int)<(r.length:Int):=by omega
    cases hz:(x.k==0)
    ·have hz2:=bne_of hz
     simp only[Bool.not_false]at hz2
     go_wp2_with (at_builtin;refine wpList_app rfl (.tmp 32) (.tmp 40) 43 rfl w.heap.size 68 3 32 Tryz.underlying43 valJ _ k _ rfl (hown.alloc _) _ 1 x.cells rfl (one_val _ x) rfl (val_cell x) ?_ ?_ ?_ ?_)
     ·unfold maxLen;omega
     ·omega
     ·have:=hbw.size;simp;omega
     ·intro v2 w3 hown3 hg3 hat3
      have hbw3:=below_grown (hbw.alloc hbw.size (.cells #[.int .i64 x.k,.int .i64 x.n,.string x.s] 68)) hg3 (own_ge hown)
      have O3:Hid (w3.ownsRow w.heap.size 68 3 v2 (k+1) (rowCells (s.take (k+1)))):=by
       rw[rowCells_step,←HST.out]at hown3;exact hown3
      have HZ:Hid (∀x∈s.take (k+1),(x.k != 0)=true):=by
       rw[HST.out];intro z hzz;rcases List.mem_append.1 hzz with hzz|hzz
       ·exact H.out z hzz
       ·simp only[List.mem_singleton]at hzz;rw[hzz];exact hz2
      clear hown3 hg3 hat3 hown;go_wp2;go_roundw
      case rel=>exact⟨k+1,_,rfl,by omega,by go_num,HZ.out,O3.out,hbw3⟩
      case measure=>simp[intOf];omega
    ·have hz2:=bne_of hz
     simp only[Bool.not_true]at hz2
     have EE:Hid (R=(⟨#[]⟩,false)):=Lib.hid (by
      rw[HE2.out];refine if_neg ?_;rw[Bool.not_eq_true,allB,List.all_eq_false];exact⟨x,HM.out,by simp[hz2]⟩)
     clear hown;go_wp2
     go_ret2
     exact⟨by rw[EE.out];rfl,hBw⟩
   ·obtain rfl:k=t.length:=by omega
    have HO:=Lib.hid (Sl.of_own hown);clear hown;rw[List.take_of_length_le (by omega)]at HO H
    have EE:Hid (R=(str (keyRow s),true)):=Lib.hid (by
     rw[HE2.out];refine if_pos ?_;rw[allB,List.all_eq_true];exact H.out)
    have HO2:Hid (Sl wr u s.length (rowCells s)):=Lib.hid (by rw[hsl];exact HO.out)
    go_wp2_with fail
    refine(rkey_any u s _ HO2.out HPF.out.1 HPF.out.2).mono ?_;rintro e w2 ⟨rfl,hb2⟩;go_wp2
    go_ret2
    exact⟨by rw[EE.out];rfl,below_trans hBw hb2⟩
end Go.Proofs.YtjhbeecmdgglgaaGreatDoor
namespace Go.Proofs.YtjhbeecmdgglgaaGreatDoor
open Go.RowKit Go.Maps
set_option maxHeartbeats 2000000 in
set_option maxRecDepth 10000 in
theorem keyOf_any (p:Pl)(side:Int)(v:Value)(r:List Val)(w:World)(h:p.ok w)(hf:p.fit)(hr:Sl w v r.length (rowCells r))(hfr:Fine r)(hm:Mx w):
 Calls Tryz.prog 37 #[.agg #[.int .i64 p.kind,.int .i64 p.mode,.int .i64 p.low,.int .i64 p.high,.int .i64 p.size,.int .i64 p.limit,p.vl,p.vr,p.vk,p.vq,.bool p.grouped,p.vg,p.va],.int .i64 side,v] w fun e w'=>e= .returned (.tuple #[.string (keyOfR p side r).1,.bool (keyOfR p side r).2,.int .i64 (rowR p side r)])∧Below w.heap.size w w':=by
 have HROW:=Lib.hid (fun w' (hb:Below w.heap.size w w')=>row_any p side v r w' (h.below hb) hf (hr.below hb) hfr.small);have HMX:=Lib.hid hm;by_cases hq:rowR p side r=0
 ·have hrow:=rowR_fine hq
  have HE:Hid (keyOfR p side r=if allB (fun x:Val=>x.k != 0) ((colsT p side).map (pickV r))then(str (keyRow ((colsT p side).map (pickV r))),true)else(⟨#[]⟩,false)):=Lib.hid (if_pos hq);rw[hq]at HROW⊢;have HPF:=Lib.hid (picked_fine hrow hfr);have HCO:=Lib.hid hrow.cols;have HFW:=hrow.few;have HSD:=hrow.sides;have HS:=Lib.hid hrow.one;have HS':=Lib.hid hrow.two;have HL:=Lib.hid h.k;have HR:=Lib.hid h.q;have HV:=Lib.hid hr;clear h hf hrow hq hfr hm;generalize keyOfR p side r=R at HE⊢;generalize colsT p side=t at HE HS HS' HPF HCO HFW;obtain⟨kind,mode,low,high,size,limit,vl,vr,vk,vq,grouped,vg,va,left,right,lkeys,rkeys,group,aggs⟩:=p;simp only at HE HL HR HS HS' HPF HCO HFW HROW⊢;obtain⟨A0,c0,rfl,n0,m0,-⟩:=id HL.out;obtain⟨A1,c1,rfl,n1,m1,-⟩:=id HR.out;obtain⟨A,c,rfl,n2,m2,-⟩:=hr;unfold maxLen at m0 m1 m2;have hB:=below_alloc w (.cells #[.int .i64 kind,.int .i64 mode,.int .i64 low,.int .i64 high,.int .i64 size,.int .i64 limit,vl,vr,.slice A0 lkeys.length c0,.slice A1 rkeys.length c1,.bool grouped,vg,va] 25);have K1:=Blk.new w 25 #[.int .i64 kind,.int .i64 mode,.int .i64 low,.int .i64 high,.int .i64 size,.int .i64 limit,vl,vr,.slice A0 lkeys.length c0,.slice A1 rkeys.length c1,.bool grouped,vg,va];have HE2:=HE;obtain⟨s,hss⟩: ∃s,t.map (pickV r)=s:=⟨_,rfl⟩;rw[hss]at HPF HE2;have HSS:=Lib.hid hss;have hsl:s.length=t.length:=by rw[←hss,List.length_map]
  clear hss HE;rcases HSD with hs|hs
  ·have b1:(side==2)=false:=beqF (by omega)
   obtain rfl:=HS.out hs;have HTT:=HL;clear HS HS' hs;go_enter Tryz.func37,Tryz.ntmps37
   go_wp2_with fail
   refine(HROW.out _ hB).mono ?_;rintro e w1 ⟨rfl,hb1⟩;have B1:=below_trans hB hb1;have K2:=K1.below hb1;have y8:=K2.cell 8 _ rfl;have y9:=K2.cell 9 _ rfl;clear K1 hB hb1 HROW
   go_wp2_with fail
   go_loopw[11,13,31] (fun out _ i wr=> ∃(k:Nat) (u:Value),u=out∧k≤t.length∧i= .int .i64 k∧Hid (∀x∈s.take k,(x.k != 0)=true)∧wr.ownsRow w1.heap.size 68 3 u k (rowCells (s.take k))∧Below w1.heap.size w1 wr) (fun _ _ i _=>t.length-(intOf i).toNat)
   case atStart=>exact⟨0,_,rfl,by omega,rfl,by simp[Hid],⟨rfl,.inl ⟨rfl,rfl⟩⟩,Below.refl _ _⟩
   case round=>
    obtain⟨k,u,rfl,hk,rfl,H,hown,hbw⟩:=hrel;have hBw:=B1.trans (hbw.mono B1.size);by_cases hlt:k<t.length
    ·obtain⟨bt,ot,hAt,-,hct⟩:=int_at HTT.out rfl hlt
     have d0:=hct _ hBw;have gt:t[k]?=some (t.getD k 0):=by simp[hlt]
     generalize t.getD k 0=y at d0 gt;have ry:=HCO.out y (List.mem_of_getElem? gt);obtain⟨m,rfl⟩: ∃m:Nat,y=m:=⟨y.toNat,by omega⟩;have hm:m<r.length:=by omega
     have hx:=pick_at hm;have gs:s[k]?=some (pickV r (m:Int)):=by rw[←HSS.out,List.getElem?_map,gt];rfl
     have hst:s.take (k+1)=s.take k++[pickV r (m:Int)]:=by rw[List.take_add_one,gs];rfl
     generalize pickV r (m:Int)=x at hx hst gs;obtain⟨g,off,rfl,-,hc⟩:=val_at HV.out rfl hx;obtain⟨d1,d2,d3⟩:=hc _ hBw;have HST:=Lib.hid hst;have HM:=Lib.hid (List.mem_of_getElem? gs);clear hx hc hct gt hst ry gs;subst hAt;have m0':(0:Int)≤(m:Int):=by omega
     have m1':(m:Int)<(r.length:Int):=by omega
     cases hz:(x.k==0)
     ·have hz2:=bne_of hz
      simp only[Bool.not_false]at hz2
      go_wp2_with (at_builtin;refine wpList_app rfl (.tmp 41) (.tmp 46) 43 rfl w1.heap.size 68 3 32 Tryz.underlying43 valJ _ k _ rfl (hown.alloc _) _ 1 x.cells rfl (one_val _ x) rfl (val_cell x) ?_ ?_ ?_ ?_)
      ·unfold maxLen;omega
      ·omega
      ·have:=hbw.size;simp;omega
      ·intro v2 w3 hown3 hg3 hat3
       have hbw3:=below_grown (hbw.alloc hbw.size (.cells #[.int .i64 x.k,.int .i64 x.n,.string x.s] 68)) hg3 (own_ge hown)
       have O3:Hid (w3.ownsRow w1.heap.size 68 3 v2 (k+1) (rowCells (s.take (k+1)))):=by
        rw[rowCells_step,←HST.out]at hown3;exact hown3
       have HZ:Hid (∀x∈s.take (k+1),(x.k != 0)=true):=by
        rw[HST.out];intro z hzz;rcases List.mem_append.1 hzz with hzz|hzz
        ·exact H.out z hzz
        ·simp only[List.mem_singleton]at hzz;rw[hzz];exact hz2
       clear hown3 hg3 hat3 hown;go_wp2;go_roundw
       case rel=>exact⟨k+1,_,rfl,by omega,by go_num,HZ.out,O3.out,hbw3⟩
       case measure=>simp[intOf];omega
     ·have hz2:=bne_of hz
      simp only[Bool.not_true]at hz2
      have EE:Hid (R=(⟨#[]⟩,false)):=Lib.hid (by
       rw[HE2.out];refine if_neg ?_;rw[Bool.not_eq_true,allB,List.all_eq_false];exact⟨x,HM.out,by simp[hz2]⟩)
      clear hown;go_wp2
      go_ret3
      exact⟨by rw[EE.out];rfl,hBw⟩
    ·obtain rfl:k=t.length:=by omega
     have HO:=Lib.hid (Sl.of_own hown);clear hown;rw[List.take_of_length_le (by omega)]at HO H
     have EE:Hid (R=(str (keyRow s),true)):=Lib.hid (by
      rw[HE2.out];refine if_pos ?_;rw[allB,List.all_eq_true];exact H.out)
     have HO2:Hid (Sl wr u s.length (rowCells s)):=Lib.hid (by rw[hsl];exact HO.out)
     go_wp2_with fail
     refine(key_any u s _ HO2.out HPF.out.1 (HMX.out.below hBw)).mono ?_;rw[show keyR s=(str (keyRow s),0)from if_neg (by rw[HPF.out.2];simp)];rintro e w2 ⟨rfl,hb2⟩;go_wp2
     go_ret3
     exact⟨by rw[EE.out];rfl,below_trans hBw hb2⟩
  ·have b1:=beqT hs
   obtain rfl:=HS'.out hs;have HTT:=HR;clear HS HS' hs;go_enter Tryz.func37,Tryz.ntmps37
   go_wp2_with fail
   refine(HROW.out _ hB).mono ?_;rintro e w1 ⟨rfl,hb1⟩;have B1:=below_trans hB hb1;have K2:=K1.below hb1;have y8:=K2.cell 8 _ rfl;have y9:=K2.cell 9 _ rfl;clear K1 hB hb1 HROW
   go_wp2_with fail
   go_loopw[11,13,31] (fun out _ i wr=> ∃(k:Nat) (u:Value),u=out∧k≤t.length∧i= .int .i64 k∧Hid (∀x∈s.take k,(x.k != 0)=true)∧wr.ownsRow w1.heap.size 68 3 u k (rowCells (s.take k))∧Below w1.heap.size w1 wr) (fun _ _ i _=>t.length-(intOf i).toNat)
   case atStart=>exact⟨0,_,rfl,by omega,rfl,by simp[Hid],⟨rfl,.inl ⟨rfl,rfl⟩⟩,Below.refl _ _⟩
   case round=>
    obtain⟨k,u,rfl,hk,rfl,H,hown,hbw⟩:=hrel;have hBw:=B1.trans (hbw.mono B1.size);by_cases hlt:k<t.length
    ·obtain⟨bt,ot,hAt,-,hct⟩:=int_at HTT.out rfl hlt
     have d0:=hct _ hBw;have gt:t[k]?=some (t.getD k 0):=by simp[hlt]
     generalize t.getD k 0=y at d0 gt;have ry:=HCO.out y (List.mem_of_getElem? gt);obtain⟨m,rfl⟩: ∃m:Nat,y=m:=⟨y.toNat,by omega⟩;have hm:m<r.length:=by omega
     have hx:=pick_at hm;have gs:s[k]?=some (pickV r (m:Int)):=by rw[←HSS.out,List.getElem?_map,gt];rfl
     have hst:s.take (k+1)=s.take k++[pickV r (m:Int)]:=by rw[List.take_add_one,gs];rfl
     generalize pickV r (m:Int)=x at hx hst gs;obtain⟨g,off,rfl,-,hc⟩:=val_at HV.out rfl hx;obtain⟨d1,d2,d3⟩:=hc _ hBw;have HST:=Lib.hid hst;have HM:=Lib.hid (List.mem_of_getElem? gs);clear hx hc hct gt hst ry gs;subst hAt;have m0':(0:Int)≤(m:Int):=by omega
     have m1':(m:Int)<(r.length:Int):=by omega
     cases hz:(x.k==0)
     ·have hz2:=bne_of hz
      simp only[Bool.not_false]at hz2
      go_wp2_with (at_builtin;refine wpList_app rfl (.tmp 41) (.tmp 46) 43 rfl w1.heap.size 68 3 32 Tryz.underlying43 valJ _ k _ rfl (hown.alloc _) _ 1 x.cells rfl (one_val _ x) rfl (val_cell x) ?_ ?_ ?_ ?_)
      ·unfold maxLen;omega
      ·omega
      ·have:=hbw.size;simp;omega
      ·intro v2 w3 hown3 hg3 hat3
       have hbw3:=below_grown (hbw.alloc hbw.size (.cells #[.int .i64 x.k,.int .i64 x.n,.string x.s] 68)) hg3 (own_ge hown)
       have O3:Hid (w3.ownsRow w1.heap.size 68 3 v2 (k+1) (rowCells (s.take (k+1)))):=by
        rw[rowCells_step,←HST.out]at hown3;exact hown3
       have HZ:Hid (∀x∈s.take (k+1),(x.k != 0)=true):=by
        rw[HST.out];intro z hzz;rcases List.mem_append.1 hzz with hzz|hzz
        ·exact H.out z hzz
        ·simp only[List.mem_singleton]at hzz;rw[hzz];exact hz2
       clear hown3 hg3 hat3 hown;go_wp2;go_roundw
       case rel=>exact⟨k+1,_,rfl,by omega,by go_num,HZ.out,O3.out,hbw3⟩
       case measure=>simp[intOf];omega
     ·have hz2:=bne_of hz
      simp only[Bool.not_true]at hz2
      have EE:Hid (R=(⟨#[]⟩,false)):=Lib.hid (by
       rw[HE2.out];refine if_neg ?_;rw[Bool.not_eq_true,allB,List.all_eq_false];exact⟨x,HM.out,by simp[hz2]⟩)
      clear hown;go_wp2
      go_ret3
      exact⟨by rw[EE.out];rfl,hBw⟩
    ·obtain rfl:k=t.length:=by omega
     have HO:=Lib.hid (Sl.of_own hown);clear hown;rw[List.take_of_length_le (by omega)]at HO H
     have EE:Hid (R=(str (keyRow s),true)):=Lib.hid (by
      rw[HE2.out];refine if_pos ?_;rw[allB,List.all_eq_true];exact H.out)
     have HO2:Hid (Sl wr u s.length (rowCells s)):=Lib.hid (by rw[hsl];exact HO.out)
     go_wp2_with fail
     refine(key_any u s _ HO2.out HPF.out.1 (HMX.out.below hBw)).mono ?_;rw[show keyR s=(str (keyRow s),0)from if_neg (by rw[HPF.out.2];simp)];rintro e w2 ⟨rfl,hb2⟩;go_wp2
     go_ret3
     exact⟨by rw[EE.out];rfl,below_trans hBw hb2⟩
 ·have HE:Hid (keyOfR p side r=(⟨#[]⟩,false)):=Lib.hid (if_neg hq)
  rw[HE.out];generalize rowR p side r=q at HROW hq⊢;have hb:=beqF hq;have hb':=bne_of hb;simp only[Bool.not_false]at hb';clear hq;obtain⟨kind,mode,low,high,size,limit,vl,vr,vk,vq,grouped,vg,va,left,right,lkeys,rkeys,group,aggs⟩:=p;simp only at HROW⊢;have hB:=below_alloc w (.cells #[.int .i64 kind,.int .i64 mode,.int .i64 low,.int .i64 high,.int .i64 size,.int .i64 limit,vl,vr,vk,vq,.bool grouped,vg,va] 25);go_enter Tryz.func37,Tryz.ntmps37
  go_wp2_with fail
  refine(HROW.out _ hB).mono ?_;rintro e w1 ⟨rfl,hb1⟩;go_wp2
  go_ret3
  exact⟨rfl,below_trans hB hb1⟩
end Go.Proofs.YtjhbeecmdgglgaaGreatDoor
namespace Go.Proofs.YtjhbeecmdgglgaaGreatDoor
open Go.RowKit Go.Maps
set_option maxHeartbeats 4000000 in
set_option maxRecDepth 10000 in
theorem wrongMany_any (p:Pl)(w:World)(h:p.ok w):
 Calls Tryz.prog 61 #[.agg #[.int .i64 p.kind,.int .i64 p.mode,.int .i64 p.low,.int .i64 p.high,.int .i64 p.size,.int .i64 p.limit,p.vl,p.vr,p.vk,p.vq,.bool p.grouped,p.vg,p.va]] w fun e w'=>e= .returned (.bool (!countsB p))∧Below w.heap.size w w':=by
 have E:Hid (countsB p=(allB id [btw p.left.length 1 4,btw p.right.length 1 4,btw p.lkeys.length 1 4,btw p.rkeys.length 1 4]&&(if p.grouped then btw p.aggs.length 1 4&&decide ((p.group.length:Int)≤8-p.aggs.length)else(p.group.length:Int)+p.aggs.length==0))):=Lib.hid rfl;generalize countsB p=R at E⊢;have hB:=below_alloc w (.cells #[.int .i64 p.kind,.int .i64 p.mode,.int .i64 p.low,.int .i64 p.high,.int .i64 p.size,.int .i64 p.limit,p.vl,p.vr,p.vk,p.vq,.bool p.grouped,p.vg,p.va] 25);obtain⟨kind,mode,low,high,size,limit,vl,vr,vk,vq,grouped,vg,va,left,right,lkeys,rkeys,group,aggs⟩:=p;obtain⟨sl,sr,sk,sq,sg,sa⟩:=h;simp only at sl sr sk sq sg sa hB E⊢;obtain⟨A0,c0,rfl,n0,m0,-⟩:=sl;obtain⟨A1,c1,rfl,n1,m1,-⟩:=sr;obtain⟨A2,c2,rfl,n2,m2,-⟩:=sk;obtain⟨A3,c3,rfl,n3,m3,-⟩:=sq;obtain⟨A4,c4,rfl,n4,m4,-⟩:=sg;obtain⟨A5,c5,rfl,n5,m5,-⟩:=sa;unfold maxLen at m0 m1 m2 m3 m4 m5;by_cases hall:btw left.length 1 4=true∧btw right.length 1 4=true∧btw lkeys.length 1 4=true∧btw rkeys.length 1 4=true
 ·obtain⟨h1,h2,h3,h4⟩:=hall
  have e:=E.out;simp only[h1,h2,h3,h4,allB,List.all_cons,List.all_nil,id,Bool.true_and,Bool.and_true]at e;have E2:=Lib.hid e;clear e E;cases grouped
  ·have e:=E2.out
   simp only[Bool.false_eq_true,if_false]at e;by_cases ha:0<aggs.length
   ·have EE:Hid (R=false):=Lib.hid (by rw[e];simp<;>omega)
    clear e E2;go_enter Tryz.func61,Tryz.ntmps61
    go_wp2_with (go_at_call 58;refine(within_any _ _ _ _).mono ?_;rintro e w' ⟨rfl,rfl⟩)
    go_ret;exact⟨ret_bool (by rw[EE.out];rfl),hB⟩
   ·by_cases hg:0<group.length
    ·have EE:Hid (R=false):=Lib.hid (by rw[e];simp<;>omega)
     clear e E2;go_enter Tryz.func61,Tryz.ntmps61
     go_wp2_with (go_at_call 58;refine(within_any _ _ _ _).mono ?_;rintro e w' ⟨rfl,rfl⟩)
     go_ret;exact⟨ret_bool (by rw[EE.out];simp<;>omega),hB⟩
    ·have EE:Hid (R=true):=Lib.hid (by rw[e];simp<;>omega)
     clear e E2;go_enter Tryz.func61,Tryz.ntmps61
     go_wp2_with (go_at_call 58;refine(within_any _ _ _ _).mono ?_;rintro e w' ⟨rfl,rfl⟩)
     go_ret;exact⟨ret_bool (by rw[EE.out];simp<;>omega),hB⟩
  ·have e:=E2.out
   simp only[if_true]at e;cases ha:btw aggs.length 1 4
   ·have EE:Hid (R=false):=Lib.hid (by rw[e,ha];rfl)
    clear e E2;go_enter Tryz.func61,Tryz.ntmps61
    go_wp2_with (go_at_call 58;refine(within_any _ _ _ _).mono ?_;rintro e w' ⟨rfl,rfl⟩)
    go_ret;exact⟨ret_bool (by rw[EE.out];rfl),hB⟩
   ·by_cases hg:(group.length:Int)≤8-aggs.length
    ·have EE:Hid (R=true):=Lib.hid (by rw[e,ha];simpa using hg)
     clear e E2;have hg': ¬(8-(aggs.length:Int)<(group.length:Int)):=by omega
     go_enter Tryz.func61,Tryz.ntmps61
     go_wp2_with (go_at_call 58;refine(within_any _ _ _ _).mono ?_;rintro e w' ⟨rfl,rfl⟩)
     go_ret;exact⟨ret_bool (by rw[EE.out];simp<;>omega),hB⟩
    ·have EE:Hid (R=false):=Lib.hid (by rw[e,ha];simp<;>omega)
     clear e E2;have hg':(8-(aggs.length:Int)<(group.length:Int)):=by omega
     go_enter Tryz.func61,Tryz.ntmps61
     go_wp2_with (go_at_call 58;refine(within_any _ _ _ _).mono ?_;rintro e w' ⟨rfl,rfl⟩)
     go_ret;exact⟨ret_bool (by rw[EE.out];simp<;>omega),hB⟩
 ·have EE:Hid (R=false):=Lib.hid (by
   rw[E.out];rw[Bool.and_eq_false_iff];left;simp only[allB,List.all_cons,List.all_nil,id,Bool.and_true];cases h1:btw left.length 1 4
   ·rfl
   ·cases h2:btw right.length 1 4
    ·rfl
    ·cases h3:btw lkeys.length 1 4
     ·rfl
     ·cases h4:btw rkeys.length 1 4
      ·rfl
      ·exact absurd ⟨h1,h2,h3,h4⟩ hall)
  clear E;cases h1:btw left.length 1 4
  ·clear hall
   go_enter Tryz.func61,Tryz.ntmps61
   go_wp2_with (go_at_call 58;refine(within_any _ _ _ _).mono ?_;rintro e w' ⟨rfl,rfl⟩)
   go_ret;exact⟨ret_bool (by rw[EE.out];rfl),hB⟩
  ·cases h2:btw right.length 1 4
   ·clear hall
    go_enter Tryz.func61,Tryz.ntmps61
    go_wp2_with (go_at_call 58;refine(within_any _ _ _ _).mono ?_;rintro e w' ⟨rfl,rfl⟩)
    go_ret;exact⟨ret_bool (by rw[EE.out];rfl),hB⟩
   ·cases h3:btw lkeys.length 1 4
    ·clear hall
     go_enter Tryz.func61,Tryz.ntmps61
     go_wp2_with (go_at_call 58;refine(within_any _ _ _ _).mono ?_;rintro e w' ⟨rfl,rfl⟩)
     go_ret;exact⟨ret_bool (by rw[EE.out];rfl),hB⟩
    ·cases h4:btw rkeys.length 1 4
     ·clear hall
      go_enter Tryz.func61,Tryz.ntmps61
      go_wp2_with (go_at_call 58;refine(within_any _ _ _ _).mono ?_;rintro e w' ⟨rfl,rfl⟩)
      go_ret;exact⟨ret_bool (by rw[EE.out];rfl),hB⟩
     ·exact absurd ⟨h1,h2,h3,h4⟩ hall
def onceB (l:List Int):Bool:=(List.range l.length).all fun i=>(List.range i).all fun k=>l.getD i 0 != l.getD k 0
theorem once_no {l:List Int}{i k:Nat}(hi:i<l.length)(hk:k<i)(h:l.getD i 0=l.getD k 0):onceB l=false:=by
 unfold onceB;rw[List.all_eq_false];refine⟨i,List.mem_range.2 hi,?_⟩;rw[Bool.not_eq_true,List.all_eq_false];exact⟨k,List.mem_range.2 hk,by rw[h];simp⟩
theorem once_yes {l:List Int}(h: ∀i k,i<l.length→k<i→l.getD i 0≠l.getD k 0):onceB l=true:=by
 unfold onceB;rw[List.all_eq_true];intro i hi;rw[List.all_eq_true];intro k hk;simpa using h i k (List.mem_range.1 hi) (List.mem_range.1 hk)
set_option maxHeartbeats 4000000 in
set_option maxRecDepth 10000 in
theorem once_any (v:Value)(l:List Int)(w:World)(h:Sl w v l.length (intCells l)):
 Calls Tryz.prog 106 #[v] w fun e w'=>e= .returned (.bool (onceB l))∧Below w.heap.size w w':=by
 have HH:=Lib.hid h;obtain⟨A,c,rfl,h1,h2,-⟩:=h;unfold maxLen at h2;go_enter Tryz.func106,Tryz.ntmps106
 go_wp2
 go_loopw[3,4] (fun i _ wr=> ∃k:Nat,k≤l.length∧i= .int .i64 k∧Hid (∀i j,i<k→j<i→l.getD i 0≠l.getD j 0)∧Below w.heap.size w wr) (fun i _ _=>l.length-(intOf i).toNat)
 case atStart=>exact⟨0,by omega,rfl,fun i j h=>absurd h (by omega),Below.refl _ _⟩
 case round=>
  obtain⟨i,hi,rfl,H,hbw⟩:=hrel;by_cases hlt:i<l.length
  ·obtain⟨b,off,rfl,-,hc⟩:=int_at HH.out rfl hlt
   have HCI:=Lib.hid hc;clear hc;go_wp2
   go_loopw[4] (fun j wr=> ∃k:Nat,k≤i∧j= .int .i64 k∧Hid (∀j,j<k→l.getD i 0≠l.getD j 0)∧Below w.heap.size w wr) (fun j _=>i-(intOf j).toNat)
   case atStart=>exact⟨0,by omega,rfl,fun j h=>absurd h (by omega),hbw⟩
   case round=>
    obtain⟨k,hk,rfl,H2,hbw2⟩:=hrel;by_cases hlk:k<i
    ·have hkl:k<l.length:=by omega
     obtain⟨b',off',hA,-,hc'⟩:=int_at HH.out rfl hkl;injection hA with hA;injection hA with e1 e2;subst e1 e2;have d1:=HCI.out _ hbw2;have d2:=hc' _ hbw2;obtain⟨x,hx⟩: ∃x,l.getD i 0=x:=⟨_,rfl⟩;rw[hx]at d1;have HX:=Lib.hid hx;obtain⟨y,hy⟩: ∃y,l.getD k 0=y:=⟨_,rfl⟩;rw[hy]at d2;have HY:=Lib.hid hy;have i0:(0:Int)≤(i:Int):=by omega
     have i1:(i:Int)<(l.length:Int):=by omega
     have k0:(0:Int)≤(k:Int):=by omega
     have k1:(k:Int)<(l.length:Int):=by omega
     clear hy hx hc';cases hq:(x==y)
     ·have hn:Hid (∀j,j<k+1→l.getD i 0≠l.getD j 0):=Lib.hid (by
       intro j hj;rcases Nat.lt_or_ge j k with h|h
       ·exact H2.out j h
       ·obtain rfl:j=k:=by omega
        rw[HX.out,HY.out];simpa using hq)
      go_wp2_with fail
      go_quiet (fail)
      go_wp2;go_roundw
      case rel=>exact⟨k+1,by omega,by go_num,hn,below_drewN hbw2 _⟩
      case measure=>simp[intOf];omega
     ·have e1:=Lib.hid (once_no hlt hlk (by rw[HX.out,HY.out];simpa using hq))
      go_wp2_with fail
      go_quiet (fail)
      go_wp2;go_ret;exact⟨ret_bool e1.out.symm,below_drewN hbw2 _⟩
    ·obtain rfl:k=i:=by omega
     have hn:Hid (∀i j,i<k+1→j<i→l.getD i 0≠l.getD j 0):=Lib.hid (by
      intro a j ha hj;rcases Nat.lt_or_ge a k with h|h
      ·exact H.out a j h hj
      ·obtain rfl:a=k:=by omega
       exact H2.out j hj)
     go_wp2;go_roundw
     case rel=>exact⟨k+1,by omega,by go_num,hn,hbw2⟩
     case measure=>simp[intOf];omega
  ·obtain rfl:i=l.length:=by omega
   have e1:=Lib.hid (once_yes H.out);go_wp2;go_ret;exact⟨ret_bool e1.out.symm,hbw⟩
end Go.Proofs.YtjhbeecmdgglgaaGreatDoor
namespace Go.Proofs.YtjhbeecmdgglgaaGreatDoor
open Go.RowKit Go.Maps
theorem once_iff (l:List Int):onceB l=true↔l.Nodup:=by
 constructor
 ·intro h
  rw[List.Nodup,List.pairwise_iff_getElem];intro i j hi hj hij;unfold onceB at h;rw[List.all_eq_true]at h;have h1:=h j (List.mem_range.2 hj);rw[List.all_eq_true]at h1;have h2:=h1 i (List.mem_range.2 hij);simp[hi,hj]at h2;exact fun e=>h2 e.symm
 ·intro h
  rw[List.Nodup,List.pairwise_iff_getElem]at h;refine once_yes fun i k hi hk=> ?_;have hkl:k<l.length:=by omega
  simp only[List.getD_eq_getElem?_getD,List.getElem?_eq_getElem hi,List.getElem?_eq_getElem hkl,Option.getD_some];exact fun e=>h k i hkl hi hk e.symm
theorem unlR_iff (n:Int): ∀(l seen:List Int),unlR n seen l=true↔(∀x∈l,btw x 0 (n-1)=true)∧(∀x∈l,x∉seen)∧l.Nodup
 |[],seen=>by simp[unlR]
 |x::r,seen=>by
  simp only[unlR,Bool.and_eq_true,unlR_iff n r,beq_iff_eq,List.count_eq_zero,List.nodup_cons,List.mem_cons,List.mem_append,List.mem_nil_iff,or_false,forall_eq_or_imp];constructor
  ·rintro⟨⟨h1,h2⟩,h3,h4,h5⟩
   refine⟨⟨h1,h3⟩,⟨h2,fun y hy=>fun e=>h4 y hy (.inl e)⟩,fun hx=>h4 x hx (.inr rfl),h5⟩
  ·rintro⟨⟨h1,h3⟩,⟨h2,h4⟩,h6,h5⟩
   refine⟨⟨h1,h2⟩,h3,fun y hy e=> ?_,h5⟩;rcases e with e|e
   ·exact h4 y hy e
   ·subst e;exact h6 hy
theorem unl_eq (l:List Int)(n:Int):unlikeB l n=(onceB l&&allB (fun x=>btw x 0 (n-1)) l):=by
 rw[Bool.eq_iff_iff,Bool.and_eq_true,once_iff];unfold unlikeB allB;rw[unlR_iff,List.all_eq_true];constructor
 ·rintro⟨h1,-,h3⟩;exact⟨h3,h1⟩
 ·rintro⟨h3,h1⟩;exact⟨h1,by simp,h3⟩
def pairR (left right:List Int) (q:Int×Int):Bool:=btw q.1 0 ((left.length:Int)-1)&&(btw q.2 0 ((right.length:Int)-1)&&pairOk left right q)
def formR (p:Pl):Bool:= !(decide (p.high<p.low))&&((p.lkeys.length==p.rkeys.length)&&(onceB p.lkeys&&(onceB p.rkeys&&(onceB p.group&&(allB (pairR p.left p.right) (p.lkeys.zip p.rkeys)&&(allB (fun x=>btw x 0 (((p.left++p.right).length:Int)-1)) p.group&&allB (aggOk (p.left++p.right)) p.aggs))))))
theorem form_eq (p:Pl):formR p=formB p:=by
 unfold formR formB;by_cases hl:p.lkeys.length=p.rkeys.length
 ·rw[Bool.eq_iff_iff]
  rw[unl_eq,unl_eq,unl_eq];simp only[Bool.and_eq_true]
  have hz:allB (pairR p.left p.right) (p.lkeys.zip p.rkeys)=true↔allB (fun x=>btw x 0 ((p.left.length:Int)-1)) p.lkeys=true∧allB (fun x=>btw x 0 ((p.right.length:Int)-1)) p.rkeys=true∧allB (pairOk p.left p.right) (p.lkeys.zip p.rkeys)=true:=by
   unfold allB pairR;simp only[List.all_eq_true,Bool.and_eq_true];constructor
   ·intro h
    refine⟨fun x hx=> ?_,fun x hx=> ?_,fun q hq=>(h q hq).2.2⟩
    ·rw[←List.map_fst_zip (l₁:=p.lkeys) (l₂:=p.rkeys) (by omega)]at hx
     obtain⟨q,hq,rfl⟩:=List.mem_map.1 hx;exact(h q hq).1
    ·rw[←List.map_snd_zip (l₁:=p.lkeys) (l₂:=p.rkeys) (by omega)]at hx
     obtain⟨q,hq,rfl⟩:=List.mem_map.1 hx;exact(h q hq).2.1
   ·rintro⟨h1,h2,h3⟩ q hq
    have:=List.of_mem_zip (a:=q.1) (b:=q.2) hq;exact⟨h1 _ this.1,h2 _ this.2,h3 q hq⟩
  rw[hz];constructor
  ·rintro⟨a,b,c,d,e,⟨f,g,h⟩,i,j⟩
   exact⟨a,b,⟨c,f⟩,⟨d,g⟩,⟨e,i⟩,h,j⟩
  ·rintro⟨a,b,⟨c,f⟩,⟨d,g⟩,⟨e,i⟩,h,j⟩
   exact⟨a,b,c,d,e,⟨f,g,h⟩,i,j⟩
 ·have:(p.lkeys.length==p.rkeys.length)=false:=by simpa using hl
  rw[this];simp
end Go.Proofs.YtjhbeecmdgglgaaGreatDoor
