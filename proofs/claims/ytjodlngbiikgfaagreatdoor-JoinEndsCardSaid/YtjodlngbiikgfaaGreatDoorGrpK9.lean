/-Plans: Gone, and the reference's GoneAt. Plans: Row, and the reference's RowError. Plans: the reference's RowError. Plans: KeyOf, and the reference's  -/
import Derived.Test.YtjodlngbiikgfaaGreatDoorGrpK8
import Derived.Test.YtjodlngbiikgfaaGreatDoorGrpK2
import Derived.Test.YtjodlngbiikgfaaGreatDoorGrpK5
import Derived.Test.YtjodlngbiikgfaaGreatDoorGrpK7
import Derived.Test.YtjodlngbiikgfaaGreatDoorGrpK6
set_option linter.unusedSimpArgs false
set_option linter.unusedVariables false
namespace Go.Proofs.YtjodlngbiikgfaaGreatDoor
open Go.RowKit Go.Maps
open tm (fitsB fits_any rfits_any winF window_any start_any fits_of)
open tm (untilF until_yes runtil_any)
theorem winB (t size:Int)(hs:1≤size):t-size<winF t size∧winF t size≤t:=by
 unfold winF;have h1:=Int.emod_nonneg t (b:=size) (by omega);have h2:=Int.emod_lt_of_pos t (b:=size) (by omega);omega
theorem fits_neg {t:Int}(h:fitsB t=true):fitsB (-t)=true:=by
 have:=fits_of h;simp[fitsB];omega
def goneF (p:Pl) (side mark:Int):Int:=
 if p.kind=1 then(if side=2 then untilF mark (-p.low)else untilF mark p.high)
 else if p.kind=2 then(if mark=1099511627776 then 1099511627776 else winF (mark+1) p.size-1)
 else(if side=2 then-1099511627777 else mark)
def goneR (p:Pl) (side mark:Int):Int×Int:=
 if checkP p=0 then if side=1∨side=2 then if fitsB mark=true then(goneF p side mark,0)else(0,3)else(0,4)else(0,checkP p)
theorem check_kind {p:Pl}(h:checkP p=0):(p.kind=1∧fitsB p.low=true∧fitsB p.high=true)∨(p.kind=2∧1≤p.size∧p.size≤1099511627776)∨p.kind=3:=by
 have hok:=check_ok h;have h1:=hok.1;have h2:=hok.2.1;unfold kindsB at h1;unfold rangesB at h2;rw[Bool.and_eq_true]at h1 h2;have:=btw_of h1.1;by_cases k1:p.kind=1
 ·have h2:=h2.1
  rw[if_pos k1]at h2;simp only[Bool.and_eq_true]at h2;exact .inl ⟨k1,h2.1,h2.2.1⟩
 ·by_cases k2:p.kind=2
  ·have h2:=h2.1
   rw[if_neg k1,if_pos k2]at h2;simp only[Bool.and_eq_true]at h2;have:=btw_of h2.2.2;exact .inr (.inl ⟨k2,this.1,this.2⟩)
  ·exact .inr (.inr (by omega))
set_option maxHeartbeats 4000000 in
set_option maxRecDepth 10000 in
theorem gone_any (p:Pl)(side mark:Int)(w:World)(h:p.ok w)(hf:p.fit):
 Calls Tryz.prog 60 #[.agg #[.int .i64 p.kind,.int .i64 p.mode,.int .i64 p.low,.int .i64 p.high,.int .i64 p.size,.int .i64 p.limit,p.vl,p.vr,p.vk,p.vq,.bool p.grouped,p.vg,p.va],.int .i64 side,.int .i64 mark] w fun e w'=>e= .returned (.tuple #[.int .i64 (goneR p side mark).1,.int .i64 (goneR p side mark).2])∧Below w.heap.size w w':=by
 have HC:=Lib.hid (fun w' (hb:Below w.heap.size w w')=>check_any p w' (h.below hb) hf);clear h hf;by_cases hq:checkP p=0
 ·rw[hq]at HC
  have hk:=check_kind hq;have HG:Hid (goneR p side mark=if side=1∨side=2 then if fitsB mark=true then(goneF p side mark,0)else(0,3)else(0,4)):=Lib.hid (if_pos hq)
  have HE:Hid (goneF p side mark=(if p.kind=1 then(if side=2 then untilF mark (-p.low)else untilF mark p.high)
   else if p.kind=2 then(if mark=1099511627776 then 1099511627776 else winF (mark+1) p.size-1)
   else(if side=2 then-1099511627777 else mark))):=Lib.hid rfl
  generalize goneF p side mark=R at HE HG;generalize goneR p side mark=G at HG⊢;clear hq;obtain⟨kind,mode,low,high,size,limit,vl,vr,vk,vq,grouped,vg,va,left,right,lkeys,rkeys,group,aggs⟩:=p;simp only at HC HE HG hk⊢;have hB:=fun k=>below_alloc w (.cells #[.int .i64 k,.int .i64 mode,.int .i64 low,.int .i64 high,.int .i64 size,.int .i64 limit,vl,vr,vk,vq,.bool grouped,vg,va] 25);have K1:=fun k=>Blk.new w 25 #[.int .i64 k,.int .i64 mode,.int .i64 low,.int .i64 high,.int .i64 size,.int .i64 limit,vl,vr,vk,vq,.bool grouped,vg,va];by_cases hsd:side=1∨side=2
  ·by_cases hm:fitsB mark=true
   ·have GG:Hid (G=(R,0)):=Lib.hid (by rw[HG.out,if_pos hsd,if_pos hm])
    have hb:=fits_of hm;clear HG;have HM:=Lib.hid hm;clear hm;rcases hk with⟨rfl,f1,f2⟩|⟨rfl,s1,s2⟩|rfl
    ·have b1:=fits_of f1
     have b2:=fits_of f2;have F1:=Lib.hid (fits_neg f1);have F2:=Lib.hid f2;clear f1 f2;rcases hsd with rfl|rfl
     ·have EE:Hid (R=untilF mark high):=Lib.hid HE.out
      clear HE;go_enter Tryz.func60,Tryz.ntmps60
      go_wp2_with fail
      refine(HC.out _ (hB _)).mono ?_;rintro e w1 ⟨rfl,hb1⟩;have B1:=below_trans (hB _) hb1;obtain⟨y0,y1,y2,y3,y4,y5,y6,y7,y8,y9,y10,y11,y12⟩:=pl_cells ((K1 1).below hb1);clear K1 hB hb1 HC
      go_wp2_with fail
      refine(fits_any _ _).mono ?_;rw[HM.out];rintro e w' ⟨rfl,rfl⟩
      go_wp2_with fail
      refine(until_yes mark high _ HM.out F2.out).mono ?_;rintro e w' ⟨rfl,rfl⟩;go_wp2
      go_ret2
      exact⟨by rw[GG.out,EE.out];rfl,B1⟩
     ·have EE:Hid (R=untilF mark (-low)):=Lib.hid HE.out
      clear HE;go_enter Tryz.func60,Tryz.ntmps60
      go_wp2_with fail
      refine(HC.out _ (hB _)).mono ?_;rintro e w1 ⟨rfl,hb1⟩;have B1:=below_trans (hB _) hb1;obtain⟨y0,y1,y2,y3,y4,y5,y6,y7,y8,y9,y10,y11,y12⟩:=pl_cells ((K1 1).below hb1);clear K1 hB hb1 HC
      go_wp2_with fail
      refine(fits_any _ _).mono ?_;rw[HM.out];rintro e w' ⟨rfl,rfl⟩
      go_wp2_with fail
      refine(until_yes mark (-low) _ HM.out F1.out).mono ?_;rintro e w' ⟨rfl,rfl⟩;go_wp2
      go_ret2
      exact⟨by rw[GG.out,EE.out];rfl,B1⟩
    ·by_cases hmx:mark=1099511627776
     ·have EE:Hid (R=1099511627776):=Lib.hid (by rw[HE.out,if_neg (by decide),if_pos rfl,if_pos hmx])
      clear HE;subst hmx;rcases hsd with rfl|rfl
      all_goals
       go_enter Tryz.func60,Tryz.ntmps60
       go_wp2_with fail
       refine(HC.out _ (hB _)).mono ?_;rintro e w1 ⟨rfl,hb1⟩;have B1:=below_trans (hB _) hb1;obtain⟨y0,y1,y2,y3,y4,y5,y6,y7,y8,y9,y10,y11,y12⟩:=pl_cells ((K1 2).below hb1);clear K1 hB hb1 HC
       go_wp2_with fail
       refine(fits_any _ _).mono ?_;rw[HM.out];rintro e w' ⟨rfl,rfl⟩;go_wp2
       go_ret2
       exact⟨by rw[GG.out,EE.out];rfl,B1⟩
     ·have EE:Hid (R=winF (mark+1) size-1):=Lib.hid (by rw[HE.out,if_neg (by decide),if_pos rfl,if_neg hmx])
      have bm:=beqF hmx;have hw:=winB (mark+1) size s1;have hmb:mark<1099511627776:=by omega
      clear HE hmx;rcases hsd with rfl|rfl
      all_goals
       go_enter Tryz.func60,Tryz.ntmps60
       go_wp2_with fail
       refine(HC.out _ (hB _)).mono ?_;rintro e w1 ⟨rfl,hb1⟩;have B1:=below_trans (hB _) hb1;obtain⟨y0,y1,y2,y3,y4,y5,y6,y7,y8,y9,y10,y11,y12⟩:=pl_cells ((K1 2).below hb1);clear K1 hB hb1 HC
       go_wp2_with fail
       refine(fits_any _ _).mono ?_;rw[HM.out];rintro e w' ⟨rfl,rfl⟩
       go_wp2_with fail
       refine(window_any (mark+1) size _ (by omega) (by omega) s1 s2).mono ?_;rintro e w' ⟨rfl,rfl⟩;go_wp2
       go_ret2
       exact⟨by rw[GG.out,EE.out];rfl,B1⟩
    ·rcases hsd with rfl|rfl
     ·have EE:Hid (R=mark):=Lib.hid HE.out
      clear HE;go_enter Tryz.func60,Tryz.ntmps60
      go_wp2_with fail
      refine(HC.out _ (hB _)).mono ?_;rintro e w1 ⟨rfl,hb1⟩;have B1:=below_trans (hB _) hb1;obtain⟨y0,y1,y2,y3,y4,y5,y6,y7,y8,y9,y10,y11,y12⟩:=pl_cells ((K1 3).below hb1);clear K1 hB hb1 HC
      go_wp2_with fail
      refine(fits_any _ _).mono ?_;rw[HM.out];rintro e w' ⟨rfl,rfl⟩;go_wp2
      go_ret2
      exact⟨by rw[GG.out,EE.out];rfl,B1⟩
     ·have EE:Hid (R= -1099511627777):=Lib.hid HE.out
      clear HE;go_enter Tryz.func60,Tryz.ntmps60
      go_wp2_with fail
      refine(HC.out _ (hB _)).mono ?_;rintro e w1 ⟨rfl,hb1⟩;have B1:=below_trans (hB _) hb1;obtain⟨y0,y1,y2,y3,y4,y5,y6,y7,y8,y9,y10,y11,y12⟩:=pl_cells ((K1 3).below hb1);clear K1 hB hb1 HC
      go_wp2_with fail
      refine(fits_any _ _).mono ?_;rw[HM.out];rintro e w' ⟨rfl,rfl⟩;go_wp2
      go_ret2
      exact⟨by rw[GG.out,EE.out];rfl,B1⟩
   ·have hm0:fitsB mark=false:=by simpa using hm
    have GG:Hid (G=(0,3)):=Lib.hid (by rw[HG.out,if_pos hsd,if_neg hm]);have HM:=Lib.hid hm0;clear HG hm hm0 HE hk;rcases hsd with rfl|rfl
    all_goals
     go_enter Tryz.func60,Tryz.ntmps60
     go_wp2_with fail
     refine(HC.out _ (hB _)).mono ?_;rintro e w1 ⟨rfl,hb1⟩
     go_wp2_with fail
     refine(fits_any _ _).mono ?_;rw[HM.out];rintro e w' ⟨rfl,rfl⟩;go_wp2
     go_ret2
     exact⟨by rw[GG.out];rfl,below_trans (hB _) hb1⟩
  ·have GG:Hid (G=(0,4)):=Lib.hid (by rw[HG.out,if_neg hsd])
   have b1:=bneT (fun h=>hsd (.inl h):side≠1);have b2:=bneT (fun h=>hsd (.inr h):side≠2);clear HG HE hk hsd;go_enter Tryz.func60,Tryz.ntmps60
   go_wp2_with fail
   refine(HC.out _ (hB _)).mono ?_;rintro e w1 ⟨rfl,hb1⟩;go_wp2
   go_ret2
   exact⟨by rw[GG.out];rfl,below_trans (hB _) hb1⟩
 ·have HG:Hid (goneR p side mark=(0,checkP p)):=Lib.hid (if_neg hq)
  rw[HG.out];generalize checkP p=q at HC hq⊢;have hb':=bneT hq;clear hq;obtain⟨kind,mode,low,high,size,limit,vl,vr,vk,vq,grouped,vg,va,left,right,lkeys,rkeys,group,aggs⟩:=p;simp only at HC⊢;have hB:=below_alloc w (.cells #[.int .i64 kind,.int .i64 mode,.int .i64 low,.int .i64 high,.int .i64 size,.int .i64 limit,vl,vr,vk,vq,.bool grouped,vg,va] 25);go_enter Tryz.func60,Tryz.ntmps60
  go_wp2_with fail
  refine(HC.out _ hB).mono ?_;rintro e w1 ⟨rfl,hb1⟩;go_wp2
  go_ret2
  exact⟨rfl,below_trans hB hb1⟩
end Go.Proofs.YtjodlngbiikgfaaGreatDoor
namespace Go.Proofs.YtjodlngbiikgfaaGreatDoor
open Go.RowKit Go.Maps
def sideT (p:Pl) (side:Int):List Int:=if side=2 then p.right else p.left
def fitOne (q:Int×Val):Bool:=q.2.k==0||q.2.k==q.1
def rowE (p:Pl) (side:Int) (r:List Val):Int:=
 if side=1∨side=2 then if r.length=(sideT p side).length then if firstNZ (r.map checkV)=0 then if allB fitOne ((sideT p side).zip r)then 0 else 5 else firstNZ (r.map checkV)else 2 else 4
def rowR (p:Pl) (side:Int) (r:List Val):Int:=if checkP p=0 then rowE p side r else checkP p
theorem side_two (p:Pl):sideT p 2=p.right:=if_pos rfl
theorem side_one (p:Pl):sideT p 1=p.left:=if_neg (by decide)
set_option maxHeartbeats 8000000 in
set_option maxRecDepth 10000 in
theorem row_any (p:Pl)(side:Int)(v:Value)(r:List Val)(w:World)(h:p.ok w)(hf:p.fit)(hr:Sl w v r.length (rowCells r))(hs:Small r):
 Calls Tryz.prog 86 #[.agg #[.int .i64 p.kind,.int .i64 p.mode,.int .i64 p.low,.int .i64 p.high,.int .i64 p.size,.int .i64 p.limit,p.vl,p.vr,p.vk,p.vq,.bool p.grouped,p.vg,p.va],.int .i64 side,v] w fun e w'=>e= .returned (.int .i64 (rowR p side r))∧Below w.heap.size w w':=by
 have HC:=Lib.hid (fun w' (hb:Below w.heap.size w w')=>check_any p w' (h.below hb) hf);have HE:Hid (rowR p side r=if checkP p=0 then(if side=1∨side=2 then if r.length=(sideT p side).length then if firstNZ (r.map checkV)=0 then if allB fitOne ((sideT p side).zip r)then 0 else 5 else firstNZ (r.map checkV)else 2 else 4)else checkP p):=Lib.hid rfl;have HOK:=Lib.hid (fun hz:checkP p=0=>counts_short (check_ok hz).2.2.1);have HL:=Lib.hid h.l;have HR:=Lib.hid h.r;have HV:=Lib.hid hr;have HSM:=Lib.hid hs;clear h hf hs;generalize rowR p side r=R at HE⊢;generalize checkP p=q at HC HE HOK⊢;have HS:Hid (side=1→sideT p side=p.left):=Lib.hid (by rintro rfl;exact side_one p);have HS':Hid (side=2→sideT p side=p.right):=Lib.hid (by rintro rfl;exact side_two p);generalize sideT p side=t at HE HS HS';obtain⟨kind,mode,low,high,size,limit,vl,vr,vk,vq,grouped,vg,va,left,right,lkeys,rkeys,group,aggs⟩:=p;simp only at HC HE HOK HL HR HS HS'⊢;obtain⟨A0,c0,rfl,n0,m0,-⟩:=id HL.out;obtain⟨A1,c1,rfl,n1,m1,-⟩:=id HR.out;obtain⟨A,c,rfl,n2,m2,-⟩:=hr;unfold maxLen at m0 m1 m2;have hB:=below_alloc w (.cells #[.int .i64 kind,.int .i64 mode,.int .i64 low,.int .i64 high,.int .i64 size,.int .i64 limit,.slice A0 left.length c0,.slice A1 right.length c1,vk,vq,.bool grouped,vg,va] 25);have K1:=Blk.new w 25 #[.int .i64 kind,.int .i64 mode,.int .i64 low,.int .i64 high,.int .i64 size,.int .i64 limit,.slice A0 left.length c0,.slice A1 right.length c1,vk,vq,.bool grouped,vg,va];by_cases hq:q=0
 ·subst hq
  obtain⟨l1,l2,r1,r2,-⟩:=HOK.out rfl;simp only at l1 l2 r1 r2;have HE2:=Lib.hid (HE.out.trans (if_pos rfl));clear HE HOK;by_cases hs1:side=1
  ·have b1:=beqT hs1
   have HE3:=Lib.hid (HE2.out.trans (if_pos (.inl hs1)));obtain rfl:=HS.out hs1;have HTT:=HL;clear HE2 HS HS' hs1;go_enter Tryz.func86,Tryz.ntmps86
   go_wp2_with fail
   refine(HC.out _ hB).mono ?_;rintro e w1 ⟨rfl,hb1⟩;have B1:=below_trans hB hb1;have K2:=K1.below hb1;clear K1 hB hb1 HC;have y6:=K2.cell 6 _ rfl;have y7:=K2.cell 7 _ rfl;by_cases hlen:r.length=t.length
   ·have HE4:=Lib.hid (HE3.out.trans (if_pos hlen))
    have b2:((r.length:Int)==(t.length:Int))=true:=by simp[hlen]
    have b2':=bne_of b2;simp only[Bool.not_true]at b2';have HLE:=Lib.hid hlen;have hle:r.length≤t.length:=by omega
    clear HE3 hlen
    go_wp2_with fail
    go_loopw[10,11,35] (fun _ _ i wr=> ∃k:Nat,k≤r.length∧i= .int .i64 k∧Hid (∀x∈(r.map checkV).take k,x=0)∧Below w1.heap.size w1 wr) (fun _ _ i _=>r.length-(intOf i).toNat)
    case atStart=>exact⟨0,by omega,rfl,by simp[Hid],Below.refl _ _⟩
    case round=>
     obtain⟨k,hk,rfl,H,hbw⟩:=hrel;have hBw:=B1.trans (hbw.mono B1.size);by_cases hlt:k<r.length
     ·have hx:=List.getElem?_eq_getElem (l:=r) hlt
      generalize r[k]=x at hx;obtain⟨g,off,rfl,-,hc⟩:=val_at HV.out rfl hx;obtain⟨d1,d2,d3⟩:=hc _ hBw;have hxs:=HSM.out x (List.mem_of_getElem? hx);have HG:=Lib.hid (show(r.map checkV)[k]?=some (checkV x)from by rw[List.getElem?_map,hx];rfl);have hbw2:=hbw.alloc hbw.size (.cells #[.int .i64 x.k,.int .i64 x.n,.string x.s] 114);clear hx hc;by_cases hq:checkV x=0
      ·have HQ:=Lib.hid hq
       have hq1:=beqT hq;have hq2:=bne_of hq1;simp only[Bool.not_true]at hq2;have HZ:=Lib.hid (zeros_step H.out HG.out hq);clear hq
       go_wp2_with (go_at_call 114;refine(check_val x _ hxs).mono ?_;rintro e w1 ⟨rfl,hb1⟩)
       go_roundw
       case rel=>exact⟨k+1,by omega,by go_num,HZ.out,hbw2.trans (hb1.mono hbw2.size)⟩
       case measure=>simp[intOf];omega
      ·have e1:=Lib.hid (firstNZ_hit H.out HG.out hq)
       have hq1:=beqF hq;have hq2:=bne_of hq1;simp only[Bool.not_false]at hq2;have EE:Hid (R=checkV x):=Lib.hid (by rw[HE4.out,e1.out,if_neg hq]);clear hq
       go_wp2_with (go_at_call 114;refine(check_val x _ hxs).mono ?_;rintro e w1 ⟨rfl,hb1⟩)
       go_ret;exact⟨by rw[EE.out];rfl,(hBw.alloc hBw.size _).trans (hb1.mono (by have:=hBw.size;simp;omega))⟩
     ·obtain rfl:k=r.length:=by omega
      have e1:=Lib.hid (firstNZ_none (l:=r.map checkV) (by have:=H.out;rwa[List.take_of_length_le (by simp)]at this));have HE5:Hid (R=if allB fitOne (t.zip r)then 0 else 5):=Lib.hid (by rw[HE4.out,e1.out];rfl);clear HE4 e1 H
      go_wp2_with fail
      go_loopw[12,13,47] (fun _ _ i wr=> ∃k:Nat,k≤r.length∧i= .int .i64 k∧Hid (∀x∈(t.zip r).take k,fitOne x=true)∧Below w1.heap.size w1 wr) (fun _ _ i _=>r.length-(intOf i).toNat)
      case atStart=>exact⟨0,by omega,rfl,by simp[Hid],hbw⟩
      case round=>
       clear hbw hBw;obtain⟨k,hk,rfl,H,hbw⟩:=hrel;have hBw:=B1.trans (hbw.mono B1.size);by_cases hlt:k<r.length
       ·have hx:=List.getElem?_eq_getElem (l:=r) hlt
        generalize r[k]=x at hx;obtain⟨g,off,rfl,-,hc⟩:=val_at HV.out rfl hx;obtain⟨d1,d2,d3⟩:=hc _ hBw;have hlt2:k<t.length:=by omega
        obtain⟨bt,ot,hAt,-,hct⟩:=int_at HTT.out rfl hlt2;have hbw2:=hbw.alloc hbw.size (.cells #[.int .i64 x.k,.int .i64 x.n,.string x.s] 114);have hBw2:=B1.trans (hbw2.mono B1.size);have d4:=hct _ hBw2;have gt:t[k]?=some (t.getD k 0):=by simp[hlt2]
        generalize t.getD k 0=y at d4 gt;have HG:=Lib.hid (show(t.zip r)[k]?=some (y,x)from by rw[List.getElem?_zip_eq_some];exact⟨gt,hx⟩);have HFO:=Lib.hid (show fitOne (y,x)=(x.k==0||x.k==y)from rfl);clear hx hc hct gt;subst hAt;have k0:(0:Int)≤(k:Int):=by omega
        have k1:(k:Int)<(t.length:Int):=by omega
        cases hq:(x.k==0)
        ·have hq2:=bne_of hq
         simp only[Bool.not_false]at hq2;cases hz:(x.k==y)
         ·have hz2:=bne_of hz
          simp only[Bool.not_false]at hz2;have e1:=Lib.hid (all_no (f:=fitOne) HG.out (by rw[HFO.out,hq,hz];rfl));have EE:Hid (R=5):=Lib.hid (by rw[HE5.out,e1.out];rfl)
          go_wp2_with fail
          go_quiet (fail)
          go_wp2;go_ret;exact⟨ret_int (by rw[EE.out]),below_drewN hBw2 _⟩
         ·have hz2:=bne_of hz
          simp only[Bool.not_true]at hz2;have e1:=Lib.hid (all_step (f:=fitOne) H.out HG.out (by rw[HFO.out,hz,Bool.or_true]))
          go_wp2_with fail
          go_quiet (fail)
          go_wp2;go_roundw
          case rel=>exact⟨k+1,by omega,by go_num,e1.out,below_drewN hbw2 _⟩
          case measure=>simp[intOf];omega
        ·have hq2:=bne_of hq
         simp only[Bool.not_true]at hq2;have e1:=Lib.hid (all_step (f:=fitOne) H.out HG.out (by rw[HFO.out,hq,Bool.true_or]))
         go_wp2_with fail
         go_quiet (fail)
         go_wp2;go_roundw
         case rel=>exact⟨k+1,by omega,by go_num,e1.out,below_drewN hbw2 _⟩
         case measure=>simp[intOf];omega
       ·obtain rfl:k=r.length:=by omega
        have e1:=Lib.hid (show allB fitOne (t.zip r)=true from all_yes (by
         have hzl:(t.zip r).length=r.length:=by rw[List.length_zip];omega
         rw[hzl];exact H.out))
        have EE:Hid (R=0):=Lib.hid (by rw[HE5.out,e1.out];rfl);go_wp2;go_ret;exact⟨ret_int (by rw[EE.out]),hBw⟩
   ·have EE:Hid (R=2):=Lib.hid (HE3.out.trans (if_neg hlen))
    have b2:((r.length:Int)==(t.length:Int))=false:=by simp;omega
    have b2':=bne_of b2;simp only[Bool.not_false]at b2';clear HE3 hlen;go_wp2;go_ret;exact⟨ret_int (by rw[EE.out]),B1⟩
  ·by_cases hs2:side=2
   ·have b1:=beqF hs1
    have b1b:=beqT hs2;have HE3:=Lib.hid (HE2.out.trans (if_pos (.inr hs2)));obtain rfl:=HS'.out hs2;have HTT:=HR;clear HE2 HS HS' hs1 hs2;go_enter Tryz.func86,Tryz.ntmps86
    go_wp2_with fail
    refine(HC.out _ hB).mono ?_;rintro e w1 ⟨rfl,hb1⟩;have B1:=below_trans hB hb1;have K2:=K1.below hb1;clear K1 hB hb1 HC;have y6:=K2.cell 6 _ rfl;have y7:=K2.cell 7 _ rfl;by_cases hlen:r.length=t.length
    ·have HE4:=Lib.hid (HE3.out.trans (if_pos hlen))
     have b2:((r.length:Int)==(t.length:Int))=true:=by simp[hlen]
     have b2':=bne_of b2;simp only[Bool.not_true]at b2';have HLE:=Lib.hid hlen;have hle:r.length≤t.length:=by omega
     clear HE3 hlen
     go_wp2_with fail
     go_loopw[10,11,35] (fun _ _ i wr=> ∃k:Nat,k≤r.length∧i= .int .i64 k∧Hid (∀x∈(r.map checkV).take k,x=0)∧Below w1.heap.size w1 wr) (fun _ _ i _=>r.length-(intOf i).toNat)
     case atStart=>exact⟨0,by omega,rfl,by simp[Hid],Below.refl _ _⟩
     case round=>
      obtain⟨k,hk,rfl,H,hbw⟩:=hrel;have hBw:=B1.trans (hbw.mono B1.size);by_cases hlt:k<r.length
      ·have hx:=List.getElem?_eq_getElem (l:=r) hlt
       generalize r[k]=x at hx;obtain⟨g,off,rfl,-,hc⟩:=val_at HV.out rfl hx;obtain⟨d1,d2,d3⟩:=hc _ hBw;have hxs:=HSM.out x (List.mem_of_getElem? hx);have HG:=Lib.hid (show(r.map checkV)[k]?=some (checkV x)from by rw[List.getElem?_map,hx];rfl);have hbw2:=hbw.alloc hbw.size (.cells #[.int .i64 x.k,.int .i64 x.n,.string x.s] 114);clear hx hc;by_cases hq:checkV x=0
       ·have HQ:=Lib.hid hq
        have hq1:=beqT hq;have hq2:=bne_of hq1;simp only[Bool.not_true]at hq2;have HZ:=Lib.hid (zeros_step H.out HG.out hq);clear hq
        go_wp2_with (go_at_call 114;refine(check_val x _ hxs).mono ?_;rintro e w1 ⟨rfl,hb1⟩)
        go_roundw
        case rel=>exact⟨k+1,by omega,by go_num,HZ.out,hbw2.trans (hb1.mono hbw2.size)⟩
        case measure=>simp[intOf];omega
       ·have e1:=Lib.hid (firstNZ_hit H.out HG.out hq)
        have hq1:=beqF hq;have hq2:=bne_of hq1;simp only[Bool.not_false]at hq2;have EE:Hid (R=checkV x):=Lib.hid (by rw[HE4.out,e1.out,if_neg hq]);clear hq
        go_wp2_with (go_at_call 114;refine(check_val x _ hxs).mono ?_;rintro e w1 ⟨rfl,hb1⟩)
        go_ret;exact⟨by rw[EE.out];rfl,(hBw.alloc hBw.size _).trans (hb1.mono (by have:=hBw.size;simp;omega))⟩
      ·obtain rfl:k=r.length:=by omega
       have e1:=Lib.hid (firstNZ_none (l:=r.map checkV) (by have:=H.out;rwa[List.take_of_length_le (by simp)]at this));have HE5:Hid (R=if allB fitOne (t.zip r)then 0 else 5):=Lib.hid (by rw[HE4.out,e1.out];rfl);clear HE4 e1 H
       go_wp2_with fail
       go_loopw[12,13,47] (fun _ _ i wr=> ∃k:Nat,k≤r.length∧i= .int .i64 k∧Hid (∀x∈(t.zip r).take k,fitOne x=true)∧Below w1.heap.size w1 wr) (fun _ _ i _=>r.length-(intOf i).toNat)
       case atStart=>exact⟨0,by omega,rfl,by simp[Hid],hbw⟩
       case round=>
        clear hbw hBw;obtain⟨k,hk,rfl,H,hbw⟩:=hrel;have hBw:=B1.trans (hbw.mono B1.size);by_cases hlt:k<r.length
        ·have hx:=List.getElem?_eq_getElem (l:=r) hlt
         generalize r[k]=x at hx;obtain⟨g,off,rfl,-,hc⟩:=val_at HV.out rfl hx;obtain⟨d1,d2,d3⟩:=hc _ hBw;have hlt2:k<t.length:=by omega
         obtain⟨bt,ot,hAt,-,hct⟩:=int_at HTT.out rfl hlt2;have hbw2:=hbw.alloc hbw.size (.cells #[.int .i64 x.k,.int .i64 x.n,.string x.s] 114);have hBw2:=B1.trans (hbw2.mono B1.size);have d4:=hct _ hBw2;have gt:t[k]?=some (t.getD k 0):=by simp[hlt2]
         generalize t.getD k 0=y at d4 gt;have HG:=Lib.hid (show(t.zip r)[k]?=some (y,x)from by rw[List.getElem?_zip_eq_some];exact⟨gt,hx⟩);have HFO:=Lib.hid (show fitOne (y,x)=(x.k==0||x.k==y)from rfl);clear hx hc hct gt;subst hAt;have k0:(0:Int)≤(k:Int):=by omega
         have k1:(k:Int)<(t.length:Int):=by omega
         cases hq:(x.k==0)
         ·have hq2:=bne_of hq
          simp only[Bool.not_false]at hq2;cases hz:(x.k==y)
          ·have hz2:=bne_of hz
           simp only[Bool.not_false]at hz2;have e1:=Lib.hid (all_no (f:=fitOne) HG.out (by rw[HFO.out,hq,hz];rfl));have EE:Hid (R=5):=Lib.hid (by rw[HE5.out,e1.out];rfl)
           go_wp2_with fail
           go_quiet (fail)
           go_wp2;go_ret;exact⟨ret_int (by rw[EE.out]),below_drewN hBw2 _⟩
          ·have hz2:=bne_of hz
           simp only[Bool.not_true]at hz2;have e1:=Lib.hid (all_step (f:=fitOne) H.out HG.out (by rw[HFO.out,hz,Bool.or_true]))
           go_wp2_with fail
           go_quiet (fail)
           go_wp2;go_roundw
           case rel=>exact⟨k+1,by omega,by go_num,e1.out,below_drewN hbw2 _⟩
           case measure=>simp[intOf];omega
         ·have hq2:=bne_of hq
          simp only[Bool.not_true]at hq2;have e1:=Lib.hid (all_step (f:=fitOne) H.out HG.out (by rw[HFO.out,hq,Bool.true_or]))
          go_wp2_with fail
          go_quiet (fail)
          go_wp2;go_roundw
          case rel=>exact⟨k+1,by omega,by go_num,e1.out,below_drewN hbw2 _⟩
          case measure=>simp[intOf];omega
        ·obtain rfl:k=r.length:=by omega
         have e1:=Lib.hid (show allB fitOne (t.zip r)=true from all_yes (by
          have hzl:(t.zip r).length=r.length:=by rw[List.length_zip];omega
          rw[hzl];exact H.out))
         have EE:Hid (R=0):=Lib.hid (by rw[HE5.out,e1.out];rfl);go_wp2;go_ret;exact⟨ret_int (by rw[EE.out]),hBw⟩
    ·have EE:Hid (R=2):=Lib.hid (HE3.out.trans (if_neg hlen))
     have b2:((r.length:Int)==(t.length:Int))=false:=by simp;omega
     have b2':=bne_of b2;simp only[Bool.not_false]at b2';clear HE3 hlen;go_wp2;go_ret;exact⟨ret_int (by rw[EE.out]),B1⟩
   ·have b1:=beqF hs1
    have b1b:=beqF hs2;have EE:Hid (R=4):=Lib.hid (HE2.out.trans (if_neg (by rintro(h|h);exact hs1 h;exact hs2 h)));clear HE2 HS HS' hs1 hs2;go_enter Tryz.func86,Tryz.ntmps86
    go_wp2_with fail
    refine(HC.out _ hB).mono ?_;rintro e w1 ⟨rfl,hb1⟩;have y6:=(K1.below hb1).cell 6 _ rfl;go_wp2;go_ret;exact⟨ret_int (by rw[EE.out]),below_trans hB hb1⟩
 ·have HE2:=Lib.hid (HE.out.trans (if_neg hq))
  have hb:=beqF hq;have hb':=bne_of hb;simp only[Bool.not_false]at hb';clear HE HOK hq;go_enter Tryz.func86,Tryz.ntmps86
  go_wp2_with fail
  refine(HC.out _ hB).mono ?_;rintro e w1 ⟨rfl,hb1⟩;go_wp2;go_ret;exact⟨ret_int (by rw[HE2.out]),below_trans hB hb1⟩
end Go.Proofs.YtjodlngbiikgfaaGreatDoor
namespace Go.Proofs.YtjodlngbiikgfaaGreatDoor
open Go.RowKit Go.Maps
theorem keyErr_few {l:List Val}(h:l.length≤8):keyErr l=firstNZ (l.map checkV):=if_neg (by omega)
end Go.Proofs.YtjodlngbiikgfaaGreatDoor
namespace Go.Proofs.YtjodlngbiikgfaaGreatDoor
open Go.RowKit Go.Maps
theorem one_val (W:World)(x:Val):Sl (W.alloc (.cells #[.int .i64 x.k,.int .i64 x.n,.string x.s] 114)) (.slice (some ⟨W.heap.size,0,none⟩) 1 1) 1 x.cells:=Sl.block (Blk.new W 114 #[.int .i64 x.k,.int .i64 x.n,.string x.s]) 1 1 (Nat.le_refl _) (by decide)
theorem rowCells_app (a b:List Val):rowCells (a++b)=rowCells a++rowCells b:=List.flatMap_append
theorem rowCells_step {t:List Val}{x:Val}:rowCells t++x.cells=rowCells (t++[x]):=by rw[rowCells_app];simp[rowCells]
def noVal:Val:=⟨0,0,⟨#[]⟩⟩
def pickV (r:List Val) (c:Int):Val:=r.getD c.toNat noVal
def colsT (p:Pl) (side:Int):List Int:=if side=2 then p.rkeys else p.lkeys
def keyFor (p:Pl) (side:Int) (r:List Val):ByteArray×Bool:=
 if allB (fun x:Val=>x.k != 0) ((colsT p side).map (pickV r))then(str (keyRow ((colsT p side).map (pickV r))),true)else(⟨#[]⟩,false)
def keyOfR (p:Pl) (side:Int) (r:List Val):ByteArray×Bool:=if rowR p side r=0 then keyFor p side r else(⟨#[]⟩,false)
theorem firstNZ_all {l:List Val}(h:firstNZ (l.map checkV)=0): ∀x∈l,checkV x=0:=by
 intro x hx;unfold firstNZ at h;cases hf:(l.map checkV).find? (fun n=>n != 0)with
 |none=>
  rw[List.find?_eq_none]at hf;have:=hf (checkV x) (List.mem_map.2 ⟨x,hx,rfl⟩);simpa using this
 |some y=>
  rw[hf]at h;have:=List.find?_some hf;simp at this h;exact absurd h this
theorem keyErr_okP {l:List Val}(h8:l.length≤8)(h: ∀x∈l,checkV x=0):keyErr l=0:=by
 rw[keyErr_few h8];exact firstNZ_none (by intro y hy;obtain⟨x,hx,rfl⟩:=List.mem_map.1 hy;exact h x hx)
structure RowFine (p:Pl) (side:Int) (r:List Val):Prop where
 sides:side=1∨side=2
 short:p.short
 len:r.length≤4
 good: ∀x∈r,checkV x=0
 cols: ∀c∈colsT p side,0≤c∧c<r.length
 few:(colsT p side).length≤4
 one:side=1→colsT p side=p.lkeys
 two:side=2→colsT p side=p.rkeys
theorem rowE_fine {p:Pl}{side:Int}{r:List Val}(hz:checkP p=0)(h:rowE p side r=0):RowFine p side r:=by
 unfold rowE at h;have hok:=check_ok hz;have hs:=counts_short hok.2.2.1;have hform:=hok.2.2.2.2;unfold formB at hform;simp only[Bool.and_eq_true]at hform;by_cases h1:side=1∨side=2
 ·rw[if_pos h1]at h
  by_cases h2:r.length=(sideT p side).length
  ·rw[if_pos h2]at h
   by_cases h3:firstNZ (r.map checkV)=0
   ·refine⟨h1,hs,?_,firstNZ_all h3,?_,?_,?_,?_⟩
    ·rcases h1 with rfl|rfl
     ·rw[side_one]at h2;have:=hs.l2;omega
     ·rw[side_two]at h2;have:=hs.r2;omega
    ·rcases h1 with rfl|rfl
     ·rw[side_one]at h2
      rw[h2];exact unl_range hform.2.2.1
     ·rw[side_two]at h2
      rw[h2];exact unl_range hform.2.2.2.1
    ·rcases h1 with rfl|rfl
     ·exact hs.k2
     ·exact hs.q2
    ·rintro rfl;rfl
    ·rintro rfl;rfl
   ·rw[if_neg h3]at h;exact absurd h h3
  ·rw[if_neg h2]at h;exact absurd h (by decide)
 ·rw[if_neg h1]at h;exact absurd h (by decide)
theorem rowR_fine {p:Pl}{side:Int}{r:List Val}(h:rowR p side r=0):RowFine p side r:=by
 unfold rowR at h;by_cases hz:checkP p=0
 ·rw[if_pos hz]at h;exact rowE_fine hz h
 ·rw[if_neg hz]at h;exact absurd h hz
theorem picked_fine {p:Pl}{side:Int}{r:List Val}(h:RowFine p side r)(hf:Fine r):Fine ((colsT p side).map (pickV r))∧keyErr ((colsT p side).map (pickV r))=0:=by
 have hin: ∀y∈(colsT p side).map (pickV r),y∈r:=by
  intro y hy;obtain⟨c,hc,rfl⟩:=List.mem_map.1 hy;have:=h.cols c hc;have hlt:c.toNat<r.length:=by omega
  unfold pickV;rw[List.getD_eq_getElem?_getD,List.getElem?_eq_getElem hlt];exact List.getElem_mem hlt
 refine⟨⟨fun x hx=>hf.small x (hin x hx),fun x hx=>hf.nums x (hin x hx)⟩,keyErr_okP ?_ fun x hx=>h.good x (hin x hx)⟩;have:=h.few;rw[List.length_map];omega
theorem pick_at {r:List Val}{m:Nat}(h:m<r.length):r[m]?=some (pickV r (m:Int)):=by
 unfold pickV;rw[show((m:Int)).toNat=m from by omega,List.getD_eq_getElem?_getD,List.getElem?_eq_getElem h];rfl
end Go.Proofs.YtjodlngbiikgfaaGreatDoor
namespace Go.Proofs.YtjodlngbiikgfaaGreatDoor
open Go.RowKit Go.Maps
set_option maxHeartbeats 2000000 in
set_option maxRecDepth 10000 in
theorem keyOf_any (p:Pl)(side:Int)(v:Value)(r:List Val)(w:World)(h:p.ok w)(hf:p.fit)(hr:Sl w v r.length (rowCells r))(hfr:Fine r)(hm:Mx w):
 Calls Tryz.prog 45 #[.agg #[.int .i64 p.kind,.int .i64 p.mode,.int .i64 p.low,.int .i64 p.high,.int .i64 p.size,.int .i64 p.limit,p.vl,p.vr,p.vk,p.vq,.bool p.grouped,p.vg,p.va],.int .i64 side,v] w fun e w'=>e= .returned (.tuple #[.string (keyOfR p side r).1,.bool (keyOfR p side r).2,.int .i64 (rowR p side r)])∧Below w.heap.size w w':=by
 have HROW:=Lib.hid (fun w' (hb:Below w.heap.size w w')=>row_any p side v r w' (h.below hb) hf (hr.below hb) hfr.small);have HMX:=Lib.hid hm;by_cases hq:rowR p side r=0
 ·have hrow:=rowR_fine hq
  have HE:Hid (keyOfR p side r=if allB (fun x:Val=>x.k != 0) ((colsT p side).map (pickV r))then(str (keyRow ((colsT p side).map (pickV r))),true)else(⟨#[]⟩,false)):=Lib.hid (if_pos hq);rw[hq]at HROW⊢;have HPF:=Lib.hid (picked_fine hrow hfr);have HCO:=Lib.hid hrow.cols;have HFW:=hrow.few;have HSD:=hrow.sides;have HS:=Lib.hid hrow.one;have HS':=Lib.hid hrow.two;have HL:=Lib.hid h.k;have HR:=Lib.hid h.q;have HV:=Lib.hid hr;clear h hf hrow hq hfr hm;generalize keyOfR p side r=R at HE⊢;generalize colsT p side=t at HE HS HS' HPF HCO HFW;obtain⟨kind,mode,low,high,size,limit,vl,vr,vk,vq,grouped,vg,va,left,right,lkeys,rkeys,group,aggs⟩:=p;simp only at HE HL HR HS HS' HPF HCO HFW HROW⊢;obtain⟨A0,c0,rfl,n0,m0,-⟩:=id HL.out;obtain⟨A1,c1,rfl,n1,m1,-⟩:=id HR.out;obtain⟨A,c,rfl,n2,m2,-⟩:=hr;unfold maxLen at m0 m1 m2;have hB:=below_alloc w (.cells #[.int .i64 kind,.int .i64 mode,.int .i64 low,.int .i64 high,.int .i64 size,.int .i64 limit,vl,vr,.slice A0 lkeys.length c0,.slice A1 rkeys.length c1,.bool grouped,vg,va] 25);have K1:=Blk.new w 25 #[.int .i64 kind,.int .i64 mode,.int .i64 low,.int .i64 high,.int .i64 size,.int .i64 limit,vl,vr,.slice A0 lkeys.length c0,.slice A1 rkeys.length c1,.bool grouped,vg,va];have HE2:=HE;obtain⟨s,hss⟩: ∃s,t.map (pickV r)=s:=⟨_,rfl⟩;rw[hss]at HPF HE2;have HSS:=Lib.hid hss;have hsl:s.length=t.length:=by rw[←hss,List.length_map]
  clear hss HE;rcases HSD with hs|hs
  ·have b1:(side==2)=false:=beqF (by omega)
   obtain rfl:=HS.out hs;have HTT:=HL;clear HS HS' hs;go_enter Tryz.func45,Tryz.ntmps45
   go_wp2_with fail
   refine(HROW.out _ hB).mono ?_;rintro e w1 ⟨rfl,hb1⟩;have B1:=below_trans hB hb1;have K2:=K1.below hb1;have y8:=K2.cell 8 _ rfl;have y9:=K2.cell 9 _ rfl;clear K1 hB hb1 HROW
   go_wp2_with fail
   go_loopw[11,13,31] (fun out _ i wr=> ∃(k:Nat) (u:Value),u=out∧k≤t.length∧i= .int .i64 k∧Hid (∀x∈s.take k,(x.k != 0)=true)∧wr.ownsRow w1.heap.size 114 3 u k (rowCells (s.take k))∧Below w1.heap.size w1 wr) (fun _ _ i _=>t.length-(intOf i).toNat)
   case atStart=>exact⟨0,_,rfl,by omega,rfl,by simp[Hid],⟨rfl,.inl ⟨rfl,rfl⟩⟩,Below.refl _ _⟩
   case round=>
    obtain⟨k,u,rfl,hk,rfl,H,hown,hbw⟩:=hrel;have hBw:=B1.trans (hbw.mono B1.size);by_cases hlt:k<t.length
    ·obtain⟨bt,ot,hAt,-,hct⟩:=int_at HTT.out rfl hlt
     have d0:=hct _ hBw;have gt:t[k]?=some (t.getD k 0):=by simp[hlt]
     generalize t.getD k 0=y at d0 gt;have ry:=HCO.out y (List.mem_of_getElem? gt);obtain⟨m,rfl⟩: ∃m:Nat,y=m:=⟨y.toNat,by omega⟩;have hm:m<r.length:=by omega
     have hx:=pick_at hm;have gs:s[k]?=some (pickV r (m:Int)):=by rw[←HSS.out,List.getElem?_map,gt];rfl
     have hst:s.take (k+1)=s.take k++[pickV r (m:Int)]:=by rw[List.take_add_one,gs];rfl
     generalize pickV r (m:Int)=x at hx hst gs;obtain⟨g,off,rfl,-,hc⟩:=val_at HV.out rfl hx;obtain⟨d1,d2,d3⟩:=hc _ hBw;have HST:=Lib.hid hst;have HM:=Lib.hid (List.mem_of_getElem? gs);clear hx hc hct gt hst ry gs;subst hAt;have m0':(0:Int)≤(m:Int):=by omega
     have m1':(m:Int)<(r.length:Int):=by omega
     cases hz:(x.k==0)
     ·have hz2:=bne_of hz
      simp only[Bool.not_false]at hz2
      go_wp2_with (at_builtin;refine wpList_app rfl (.tmp 41) (.tmp 46) 41 rfl w1.heap.size 114 3 32 Tryz.underlying41 valJ _ k _ rfl (hown.alloc _) _ 1 x.cells rfl (one_val _ x) rfl (val_cell x) ?_ ?_ ?_ ?_)
      ·unfold maxLen;omega
      ·omega
      ·have:=hbw.size;simp;omega
      ·intro v2 w3 hown3 hg3 hat3
       have hbw3:=below_grown (hbw.alloc hbw.size (.cells #[.int .i64 x.k,.int .i64 x.n,.string x.s] 114)) hg3 (own_ge hown)
       have O3:Hid (w3.ownsRow w1.heap.size 114 3 v2 (k+1) (rowCells (s.take (k+1)))):=by
        rw[rowCells_step,←HST.out]at hown3;exact hown3
       have HZ:Hid (∀x∈s.take (k+1),(x.k != 0)=true):=by
        rw[HST.out];intro z hzz;rcases List.mem_append.1 hzz with hzz|hzz
        ·exact H.out z hzz
        ·simp only[List.mem_singleton]at hzz;rw[hzz];exact hz2
       clear hown3 hg3 hat3 hown;go_wp2;go_roundw
       case rel=>exact⟨k+1,_,rfl,by omega,by go_num,HZ.out,O3.out,hbw3⟩
       case measure=>simp[intOf];omega
     ·have hz2:=bne_of hz
      simp only[Bool.not_true]at hz2
      have EE:Hid (R=(⟨#[]⟩,false)):=Lib.hid (by
       rw[HE2.out];refine if_neg ?_;rw[Bool.not_eq_true,allB,List.all_eq_false];exact⟨x,HM.out,by simp[hz2]⟩)
      clear hown;go_wp2
      go_ret3
      exact⟨by rw[EE.out];rfl,hBw⟩
    ·obtain rfl:k=t.length:=by omega
     have HO:=Lib.hid (Sl.of_own hown);clear hown;rw[List.take_of_length_le (by omega)]at HO H
     have EE:Hid (R=(str (keyRow s),true)):=Lib.hid (by
      rw[HE2.out];refine if_pos ?_;rw[allB,List.all_eq_true];exact H.out)
     have HO2:Hid (Sl wr u s.length (rowCells s)):=Lib.hid (by rw[hsl];exact HO.out)
     go_wp2_with fail
     refine(key_any u s _ HO2.out HPF.out.1 (HMX.out.below hBw)).mono ?_;rw[show keyR s=(str (keyRow s),0)from if_neg (by rw[HPF.out.2];simp)];rintro e w2 ⟨rfl,hb2⟩;go_wp2
     go_ret3
     exact⟨by rw[EE.out];rfl,below_trans hBw hb2⟩
  ·have b1:=beqT hs
   obtain rfl:=HS'.out hs;have HTT:=HR;clear HS HS' hs;go_enter Tryz.func45,Tryz.ntmps45
   go_wp2_with fail
   refine(HROW.out _ hB).mono ?_;rintro e w1 ⟨rfl,hb1⟩;have B1:=below_trans hB hb1;have K2:=K1.below hb1;have y8:=K2.cell 8 _ rfl;have y9:=K2.cell 9 _ rfl;clear K1 hB hb1 HROW
   go_wp2_with fail
   go_loopw[11,13,31] (fun out _ i wr=> ∃(k:Nat) (u:Value),u=out∧k≤t.length∧i= .int .i64 k∧Hid (∀x∈s.take k,(x.k != 0)=true)∧wr.ownsRow w1.heap.size 114 3 u k (rowCells (s.take k))∧Below w1.heap.size w1 wr) (fun _ _ i _=>t.length-(intOf i).toNat)
   case atStart=>exact⟨0,_,rfl,by omega,rfl,by simp[Hid],⟨rfl,.inl ⟨rfl,rfl⟩⟩,Below.refl _ _⟩
   case round=>
    obtain⟨k,u,rfl,hk,rfl,H,hown,hbw⟩:=hrel;have hBw:=B1.trans (hbw.mono B1.size);by_cases hlt:k<t.length
    ·obtain⟨bt,ot,hAt,-,hct⟩:=int_at HTT.out rfl hlt
     have d0:=hct _ hBw;have gt:t[k]?=some (t.getD k 0):=by simp[hlt]
     generalize t.getD k 0=y at d0 gt;have ry:=HCO.out y (List.mem_of_getElem? gt);obtain⟨m,rfl⟩: ∃m:Nat,y=m:=⟨y.toNat,by omega⟩;have hm:m<r.length:=by omega
     have hx:=pick_at hm;have gs:s[k]?=some (pickV r (m:Int)):=by rw[←HSS.out,List.getElem?_map,gt];rfl
     have hst:s.take (k+1)=s.take k++[pickV r (m:Int)]:=by rw[List.take_add_one,gs];rfl
     generalize pickV r (m:Int)=x at hx hst gs;obtain⟨g,off,rfl,-,hc⟩:=val_at HV.out rfl hx;obtain⟨d1,d2,d3⟩:=hc _ hBw;have HST:=Lib.hid hst;have HM:=Lib.hid (List.mem_of_getElem? gs);clear hx hc hct gt hst ry gs;subst hAt;have m0':(0:Int)≤(m:Int):=by omega
     have m1':(m:Int)<(r.length:Int):=by omega
     cases hz:(x.k==0)
     ·have hz2:=bne_of hz
      simp only[Bool.not_false]at hz2
      go_wp2_with (at_builtin;refine wpList_app rfl (.tmp 41) (.tmp 46) 41 rfl w1.heap.size 114 3 32 Tryz.underlying41 valJ _ k _ rfl (hown.alloc _) _ 1 x.cells rfl (one_val _ x) rfl (val_cell x) ?_ ?_ ?_ ?_)
      ·unfold maxLen;omega
      ·omega
      ·have:=hbw.size;simp;omega
      ·intro v2 w3 hown3 hg3 hat3
       have hbw3:=below_grown (hbw.alloc hbw.size (.cells #[.int .i64 x.k,.int .i64 x.n,.string x.s] 114)) hg3 (own_ge hown)
       have O3:Hid (w3.ownsRow w1.heap.size 114 3 v2 (k+1) (rowCells (s.take (k+1)))):=by
        rw[rowCells_step,←HST.out]at hown3;exact hown3
       have HZ:Hid (∀x∈s.take (k+1),(x.k != 0)=true):=by
        rw[HST.out];intro z hzz;rcases List.mem_append.1 hzz with hzz|hzz
        ·exact H.out z hzz
        ·simp only[List.mem_singleton]at hzz;rw[hzz];exact hz2
       clear hown3 hg3 hat3 hown;go_wp2;go_roundw
       case rel=>exact⟨k+1,_,rfl,by omega,by go_num,HZ.out,O3.out,hbw3⟩
       case measure=>simp[intOf];omega
     ·have hz2:=bne_of hz
      simp only[Bool.not_true]at hz2
      have EE:Hid (R=(⟨#[]⟩,false)):=Lib.hid (by
       rw[HE2.out];refine if_neg ?_;rw[Bool.not_eq_true,allB,List.all_eq_false];exact⟨x,HM.out,by simp[hz2]⟩)
      clear hown;go_wp2
      go_ret3
      exact⟨by rw[EE.out];rfl,hBw⟩
    ·obtain rfl:k=t.length:=by omega
     have HO:=Lib.hid (Sl.of_own hown);clear hown;rw[List.take_of_length_le (by omega)]at HO H
     have EE:Hid (R=(str (keyRow s),true)):=Lib.hid (by
      rw[HE2.out];refine if_pos ?_;rw[allB,List.all_eq_true];exact H.out)
     have HO2:Hid (Sl wr u s.length (rowCells s)):=Lib.hid (by rw[hsl];exact HO.out)
     go_wp2_with fail
     refine(key_any u s _ HO2.out HPF.out.1 (HMX.out.below hBw)).mono ?_;rw[show keyR s=(str (keyRow s),0)from if_neg (by rw[HPF.out.2];simp)];rintro e w2 ⟨rfl,hb2⟩;go_wp2
     go_ret3
     exact⟨by rw[EE.out];rfl,below_trans hBw hb2⟩
 ·have HE:Hid (keyOfR p side r=(⟨#[]⟩,false)):=Lib.hid (if_neg hq)
  rw[HE.out];generalize rowR p side r=q at HROW hq⊢;have hb:=beqF hq;have hb':=bne_of hb;simp only[Bool.not_false]at hb';clear hq;obtain⟨kind,mode,low,high,size,limit,vl,vr,vk,vq,grouped,vg,va,left,right,lkeys,rkeys,group,aggs⟩:=p;simp only at HROW⊢;have hB:=below_alloc w (.cells #[.int .i64 kind,.int .i64 mode,.int .i64 low,.int .i64 high,.int .i64 size,.int .i64 limit,vl,vr,vk,vq,.bool grouped,vg,va] 25);go_enter Tryz.func45,Tryz.ntmps45
  go_wp2_with fail
  refine(HROW.out _ hB).mono ?_;rintro e w1 ⟨rfl,hb1⟩;go_wp2
  go_ret3
  exact⟨rfl,below_trans hB hb1⟩
end Go.Proofs.YtjodlngbiikgfaaGreatDoor
namespace Go.Proofs.YtjodlngbiikgfaaGreatDoor
abbrev Cg:=Int×List Val
def nullV:Val:=⟨0,0,⟨#[]⟩⟩
def nullsR (n:Nat):List Val:=List.replicate n nullV
def keepsB (p:Pl) (side:Int):Bool:=if side=2 then(p.mode==3||p.mode==4)else(p.mode==2||p.mode==4)
end Go.Proofs.YtjodlngbiikgfaaGreatDoor
namespace Go.Proofs.YtjodlngbiikgfaaGreatDoor
open tm (fitsB)
structure Jn where
 left:Bu
 right:Bu
 lm:Int
 rm:Int
 seq:Int
structure Ev where
 kind:Int
 side:Int
 t:Int
 r:List Val
def noM:Int:= -1099511627777
def Jn.buf (s:Jn) (side:Int):Bu:=if side=2 then s.right else s.left
def Jn.mark (s:Jn) (side:Int):Int:=if side=2 then s.rm else s.lm
def Jn.put (s:Jn) (side:Int) (b:Bu):Jn:=if side=2 then⟨s.left,b,s.lm,s.rm,s.seq⟩else⟨b,s.right,s.lm,s.rm,s.seq⟩
def startJ (p:Pl):Jn:=⟨⟨p.limit,[],[]⟩,⟨p.limit,[],[]⟩,noM,noM,0⟩
def zJ:Jn:=⟨noB,noB,0,0,0⟩
def entOk (p:Pl) (side:Int) (seq:Int) (e:En):Bool:=decide (e.s<seq)&&((rowE p side e.r==0)&&((keyFor p side e.r).2&&((keyFor p side e.r).1.toList==e.key)))
def seqsJ (s:Jn):List Int:=s.left.all.map (·.s)++s.right.all.map (·.s)
def sidesB (p:Pl) (s:Jn):Bool:=s.left.all.all (entOk p 1 s.seq)&&(s.right.all.all (entOk p 2 s.seq)&&decide (seqsJ s).Nodup)
def rangesJ (s:Jn):Bool:=btw s.lm noM 1099511627776&&(btw s.rm noM 1099511627776&&btw s.seq 0 1099511627776)
def checkJ (p:Pl) (s:Jn):Int:=
 if checkP p≠0 then checkP p else if checkB s.left≠0 then checkB s.left else if checkB s.right≠0 then checkB s.right
 else if rangesJ s=false then 3 else if s.left.limit≠p.limit∨s.right.limit≠p.limit then 1 else if sidesB p s=true then 0 else 1
structure GoodJ (p:Pl) (s:Jn):Prop where
 plan:checkP p=0
 left:GoodB s.left
 right:GoodB s.right
 ranges:rangesJ s=true
 ll:s.left.limit=p.limit
 rl:s.right.limit=p.limit
 el: ∀e∈s.left.all,entOk p 1 s.seq e=true
 er: ∀e∈s.right.all,entOk p 2 s.seq e=true
 seqs:(seqsJ s).Nodup
theorem check_zeroJ {p:Pl}{s:Jn}:checkJ p s=0↔GoodJ p s:=by
 unfold checkJ;by_cases h1:checkP p=0
 ·rw[if_neg (fun h=>h h1)]
  by_cases h2:checkB s.left=0
  ·rw[if_neg (fun h=>h h2)]
   by_cases h3:checkB s.right=0
   ·rw[if_neg (fun h=>h h3)]
    cases h4:rangesJ s with
    |false=>
     rw[if_pos rfl];exact⟨fun h=>by omega,fun h=>by have:=h.ranges;rw[h4]at this;cases this⟩
    |true=>
     rw[if_neg (by simp)];by_cases h5:s.left.limit≠p.limit∨s.right.limit≠p.limit
     ·rw[if_pos h5]
      exact⟨fun h=>by omega,fun h=>h5.elim (fun h6=>absurd h.ll h6) (fun h6=>absurd h.rl h6)⟩
     ·rw[if_neg h5]
      by_cases h6:sidesB p s=true
      ·rw[if_pos h6]
       have h7:=h6;unfold sidesB at h7;simp only[Bool.and_eq_true,decide_eq_true_eq,List.all_eq_true]at h7;exact⟨fun _=>⟨h1,check_zeroB.1 h2,check_zeroB.1 h3,h4,by omega,by omega,h7.1,h7.2.1,h7.2.2⟩,fun _=>rfl⟩
      ·rw[if_neg h6]
       refine⟨fun h=>by omega,fun h=>absurd ?_ h6⟩;unfold sidesB;simp only[Bool.and_eq_true,decide_eq_true_eq,List.all_eq_true];exact⟨h.el,h.er,h.seqs⟩
   ·rw[if_pos h3]
    exact⟨fun h=>absurd h h3,fun h=>absurd (check_zeroB.2 h.right) h3⟩
  ·rw[if_pos h2]
   exact⟨fun h=>absurd h h2,fun h=>absurd (check_zeroB.2 h.left) h2⟩
 ·rw[if_pos h1]
  exact⟨fun h=>absurd h h1,fun h=>absurd h.plan h1⟩
def eventE (p:Pl) (s:Jn) (v:Ev):Int:=
 if(btw v.kind 1 2&&btw v.side 1 2)=false then 4 else if fitsB v.t=false then 3
 else if v.kind=2 then(if v.r≠[]then 1 else if v.t<s.mark v.side then 8 else 0)
 else if rowE p v.side v.r≠0 then rowE p v.side v.r else if v.t≤s.mark v.side then 7
 else if s.seq=1099511627776∨4096≤(s.buf v.side).all.length then 2 else 0
def joinedR (side:Int) (own other:List Val):List Val:=if side=2 then other++own else own++other
def colsN (p:Pl) (side:Int):Nat:=if side=2 then p.right.length else p.left.length
def farS (side:Int):Int:=3-side
def metS (p:Pl) (s:Jn) (v:Ev):List En:=if(keyFor p v.side v.r).2=true then scanL (s.buf (farS v.side)) (keyFor p v.side v.r).1.toList (spanT p.kind p.low p.high p.size v.side v.t).1 (spanT p.kind p.low p.high p.size v.side v.t).2 else[]
def tellS (p:Pl) (v:Ev) (e:En):List Cg:=if(keepsB p (farS v.side)&& !e.met)=true then[(3,joinedR v.side (nullsR (colsN p v.side)) e.r),(4,joinedR v.side v.r e.r)]else[(1,joinedR v.side v.r e.r)]
def aloneS (p:Pl) (v:Ev):List Cg:=if keepsB p v.side=true then[(1,joinedR v.side v.r (nullsR (colsN p (farS v.side))))]else[]
def latestB (b:Bu) (key:List UInt8) (t:Int):Option En:=(scanL b key (-1099511627776) t).getLast?
def metV (p:Pl) (s:Jn) (v:Ev):List En:=if(keyFor p v.side v.r).2=true then(scanL s.left (keyFor p v.side v.r).1.toList v.t 1099511627776).filter fun e=>match latestB s.right (keyFor p v.side v.r).1.toList e.t with
 |some m=>decide (m.t≤v.t)
 |none=>true else[]
def tellV (p:Pl) (s:Jn) (v:Ev) (e:En):List Cg:=match latestB s.right (keyFor p v.side v.r).1.toList e.t with
 |some m=>[(3,e.r++m.r),(4,e.r++v.r)]
 |none=>if keepsB p 1=true then[(3,e.r++nullsR p.right.length),(4,e.r++v.r)]else[(1,e.r++v.r)]
def bringJ (p:Pl) (s:Jn) (v:Ev):List Cg×List En×Bool:=
 if p.kind=3 then
  if v.side=2 then((metV p s v).flatMap (tellV p s v),metV p s v,false)
  else match(if(keyFor p v.side v.r).2=true then latestB s.right (keyFor p v.side v.r).1.toList v.t else none)with
   |some m=>([(1,v.r++m.r)],[],true)
   |none=>(if keepsB p 1=true then[(1,v.r++nullsR p.right.length)]else[],[],false)
 else(if(metS p s v).isEmpty=true then aloneS p v else(metS p s v).flatMap (tellS p v),metS p s v, !(metS p s v).isEmpty)
def touchB (b:Bu) (l:List En):Bu:=l.foldl (fun b e=>meetB b e.key e.t e.s) b
def rowJ (p:Pl) (s:Jn) (v:Ev):Jn×List Cg:=
 let r:=bringJ p s v
 let s1:=s.put (farS v.side) (touchB (s.buf (farS v.side)) r.2.1)
 let s2:Jn:=⟨s1.left,s1.right,s1.lm,s1.rm,s1.seq+1⟩
 (if(keyFor p v.side v.r).2=false∨(s.mark (farS v.side)≠noM∧v.t≤goneF p v.side (s.mark (farS v.side)))then s2
  else s2.put v.side (putB (s2.buf v.side) ⟨(keyFor p v.side v.r).1.toList,v.t,s.seq,v.r,r.2.2⟩),r.1)
def dropJ (p:Pl) (s:Jn):Jn:=
 ⟨if s.rm=noM then s.left else dropB s.left (goneF p 1 s.rm),if s.lm=noM then s.right else dropB s.right (goneF p 2 s.lm),s.lm,s.rm,s.seq⟩
def markJ (p:Pl) (s:Jn) (v:Ev):Jn:=
 let s1:=dropJ p (if v.side=2 then⟨s.left,s.right,s.lm,v.t,s.seq⟩else⟨s.left,s.right,v.t,s.rm,s.seq⟩)
 if p.kind=3∧s1.lm≠noM∧s1.rm≠noM then⟨s1.left,siftB s1.right (keepF fun e=> !oldE (sortE s1.right.all) (min s1.lm s1.rm) e),s1.lm,s1.rm,s1.seq⟩else s1
def stepJ (p:Pl) (s:Jn) (v:Ev):Jn×List Cg×Int:=
 if checkJ p s≠0 then(zJ,[],checkJ p s)else if eventE p s v≠0 then(zJ,[],eventE p s v)
 else if v.kind=2 then(markJ p s v,[],0)else((rowJ p s v).1,(rowJ p s v).2,0)
def playJ (p:Pl):Jn→Nat→List Ev→Jn×List Cg×List Int
 |s,_,[]=>(s,[],[])
 |s,i,v::l=>if(stepJ p s v).2.2=0 then let q:=playJ p (stepJ p s v).1 (i+1) l;(q.1,(stepJ p s v).2.1++q.2.1,q.2.2)else let q:=playJ p s (i+1) l;(q.1,q.2.1,(i:Int)::q.2.2)
def playS (p:Pl) (l:List Ev):Jn×List Cg×List Int×Int:=
 if checkP p≠0 then(zJ,[],[],checkP p)else if 120<l.length then(zJ,[],[],2)else((playJ p (startJ p) 0 l).1,(playJ p (startJ p) 0 l).2.1,(playJ p (startJ p) 0 l).2.2,0)
end Go.Proofs.YtjodlngbiikgfaaGreatDoor
namespace Go.Proofs.YtjodlngbiikgfaaGreatDoor
open Go.RowKit
theorem bu_runs {a b:Buf}(h:a.bu=b.bu):a.limit=b.limit∧ens a.mem=ens b.mem∧a.runs.length=b.runs.length∧ ∀(k:Nat) p q,a.runs[k]?=some p→b.runs[k]?=some q→ens p.2=ens q.2:=by
 unfold Buf.bu at h;injection h with h1 h2 h3;refine⟨h1,h2,?_,fun k p q hp hq=> ?_⟩
 ·have:=congrArg List.length h3
  simpa using this
 ·have e1:(a.runs.map fun p=>ens p.2)[k]?=some (ens p.2):=by rw[List.getElem?_map,hp];rfl
  have e2:(b.runs.map fun p=>ens p.2)[k]?=some (ens q.2):=by rw[List.getElem?_map,hq];rfl
  rw[h3,e2]at e1;injection e1 with e1;exact e1.symm
end Go.Proofs.YtjodlngbiikgfaaGreatDoor
namespace Go.Proofs.YtjodlngbiikgfaaGreatDoor
open Go.RowKit
theorem good_runs {b:Buf}(hg:GoodB b.bu):b.runs.length≤4096:=by
 have h0: ∀l:List (List En),(∀x∈l,x≠[])→l.length≤l.flatten.length:=by
  intro l
  induction l with
  |nil=>intro _;simp
  |cons a t ih=>
   intro h;have h1:=ih fun x hx=>h x (List.mem_cons_of_mem _ hx)
   have h2:1≤a.length:=by
    have:=h a (by simp);cases a with
    |nil=>exact absurd rfl this
    |cons _ _=>simp
   simp only[List.length_cons,List.flatten_cons,List.length_append];omega
 have h1:=h0 b.bu.runs hg.full;have h2:=hg.few;have h3:b.bu.all.length=b.bu.mem.length+b.bu.runs.flatten.length:=by unfold Bu.all Bu.parts;simp
 have h4:b.bu.runs.length=b.runs.length:=List.length_map _;omega
theorem good_mem {b:Buf}(hg:GoodB b.bu):b.mem.length≤4096:=by
 have h2:=hg.few;have h3:b.bu.all.length=b.bu.mem.length+b.bu.runs.flatten.length:=by unfold Bu.all Bu.parts;simp
 have h4:b.bu.mem.length=b.mem.length:=ens_len _;omega
theorem bu_eq {a b:Buf}(h:a.bu=b.bu):a.limit=b.limit∧ens a.mem=ens b.mem∧a.mem.length=b.mem.length∧a.runs.length=b.runs.length:=by
 obtain⟨h1,h2,h3,-⟩:=bu_runs h;exact⟨h1,h2,by have:=congrArg List.length h2;rwa[ens_len,ens_len]at this,h3⟩
structure Buf.off (b:Buf) (o:Nat):Prop where
 mem: ∀k,EBlk b.vm b.mem k→k≠o
 vr: ∀k,b.vr.ownBlock=some k→k≠o
 runs: ∀q∈b.runs,∀k,EBlk q.1 q.2 k→k≠o
theorem OwnBuf.off {w:World}{base:Nat}{b:Buf}(h:OwnBuf w base b){o:Nat}(ho:w.heap.size≤o):b.off o:=
 ⟨fun k hk=>by have:=(h.mem.range hk).2;omega,fun k hk=>by have:=own_lt h.sl k hk;omega,fun q hq k hk=>by have:=((h.runs q hq).range hk).2;omega⟩
theorem OwnE.setOff {w:World}{base:Nat}{v:Value}{l:List Ent}(h:OwnE w base v l){p:Addr}(hf: ∀k,EBlk v l k→k≠p.block)(u:Value):OwnE (w.setCell p u) base v l:=
 h.setFar (fun k hk=>hf k (.inl hk)) (fun c hc k hk=>hf k (.inr ⟨c,hc,hk⟩)) u
theorem OwnBuf.setOff {w:World}{base:Nat}{b:Buf}(h:OwnBuf w base b){p:Addr}(hf:b.off p.block)(u:Value):OwnBuf (w.setCell p u) base b:=
 ⟨h.mem.setOff hf.mem u,own_set h.sl hf.vr u,fun q hq=>(h.runs q hq).setOff (hf.runs q hq) u,h.far,h.mr,h.pair⟩
theorem Buf.off.setMem {b:Buf}{o:Nat}(h:b.off o){v:Value}{l:List Ent}(hf: ∀k,EBlk v l k→k≠o):(⟨b.limit,v,l,b.vr,b.runs⟩:Buf).off o:=⟨hf,h.vr,h.runs⟩
theorem OwnBuf.spill {w w':World}{base:Nat}{b:Buf}{v':Value}(h:OwnBuf w base b)(hown:w'.ownsRow base 26 1 v' (b.runs.length+1) (b.runs.map (·.1)++[b.vm]))(hg:w.grownBy w' b.vr.ownBlock)(hat:v'.ownBlock=b.vr.ownBlock∨v'.ownBlock=some w.heap.size):
 OwnBuf w' base ⟨b.limit,.slice none 0 0,[],v',b.runs++[(b.vm,b.mem)]⟩:=
 h.noMem.snoc h.mem (fun k hk=>⟨eblk_nil rfl,h.mr k hk,fun p hp h2=>(h.far p hp k h2).1 hk⟩) hown hg hat
theorem Buf.off.spill {b:Buf}{o m:Nat}(h:b.off o){v':Value}(hat:v'.ownBlock=b.vr.ownBlock∨v'.ownBlock=some m)(hm:m≠o):(⟨b.limit,.slice none 0 0,[],v',b.runs++[(b.vm,b.mem)]⟩:Buf).off o:=by
 refine⟨fun k hk=>absurd hk (eblk_nil rfl),fun k hk=> ?_,fun q hq k hk=> ?_⟩
 ·rcases hat with e|e
  ·exact h.vr k (e▸hk)
  ·rw[e]at hk;injection hk with hk;omega
 ·rcases List.mem_append.1 hq with hq|hq
  ·exact h.runs q hq k hk
  ·simp only[List.mem_singleton]at hq
   subst hq;exact h.mem k hk
end Go.Proofs.YtjodlngbiikgfaaGreatDoor
