/-Batches: the reference's BatchError. (Printed by genbat12.py.) Plain law: rows that are put in, one by one, make a view. Plain law of batches: the ref -/
import Derived.Test.YtjhbeecmdgglgaaGreatDoorGrpW33
import Derived.Test.YtjhbeecmdgglgaaGreatDoorGrpW11
import Derived.Test.YtjhbeecmdgglgaaGreatDoorGrpW28
import Derived.Test.YtjhbeecmdgglgaaGreatDoorGrpW13
set_option linter.unusedSimpArgs false
set_option linter.unusedVariables false
namespace Go.Proofs.YtjhbeecmdgglgaaGreatDoor
open Go.RowKit Go.Maps
open tm (fitsB rfits_any)
def sideV (vL vR:Value) (s:Nat):Value:=if s=1 then vL else vR
def sideC (L R:List Chn) (s:Nat):List Chn:=if s=1 then L else R
structure BE (p:Pl) (L R:List Chn) (t s i:Nat):Prop where
 f1: ∀k x,L[k]?=some x→(t=0→s=1→k<i)→fitsB x.k=true
 f2: ∀k x,R[k]?=some x→(t=0→1<s∧(s=2→k<i))→fitsB x.k=true
 r1:t≠0→ ∀k x,L[k]?=some x→(t=1→s=1→k<i)→rowE p 1 x.r=0
 r2:t≠0→ ∀k x,R[k]?=some x→(t=1→1<s∧(s=2→k<i))→rowE p 2 x.r=0
theorem BE.start {p:Pl}{L R:List Chn}:BE p L R 0 1 0:=⟨fun k x _ h=>absurd (h rfl rfl) (Nat.not_lt_zero _),fun k x _ h=>absurd (h rfl).1 (by omega),fun h=>absurd rfl h,fun h=>absurd rfl h⟩
theorem BE.step {p:Pl}{L R:List Chn}{t s i:Nat}{x:Chn}(h:BE p L R t s i)(hs:s=1∨s=2)(ht:t<2)(hx:(sideC L R s)[i]?=some x)(h0:t=0→fitsB x.k=true)(h1:t=1→rowE p (s:Int) x.r=0):BE p L R t s (i+1):=by
 have hc: ∀ {k:Nat} {y:Chn} {q:Prop},k<i+1→(k<i→q)→(k=i→q)→q:=fun hk ha hb=>by
  rcases Nat.lt_or_ge _ i with h|h
  ·exact ha h
  ·exact hb (by omega)
 refine⟨fun k y hy hk=> ?_,fun k y hy hk=> ?_,fun hn k y hy hk=> ?_,fun hn k y hy hk=> ?_⟩
 ·by_cases hki:k=i
  ·by_cases ht0:t=0
   ·by_cases hs1:s=1
    ·subst hki hs1
     have:x=y:=by unfold sideC at hx;rw[if_pos rfl,hy]at hx;injection hx with hx;exact hx.symm
     rw[←this];exact h0 ht0
    ·exact h.f1 k y hy fun _ e=>absurd e hs1
   ·exact h.f1 k y hy fun e=>absurd e ht0
  ·exact h.f1 k y hy fun a b=>by have:=hk a b;omega
 ·by_cases hki:k=i
  ·by_cases ht0:t=0
   ·by_cases hs1:s=2
    ·subst hki hs1
     have:x=y:=by unfold sideC at hx;rw[if_neg (by omega),hy]at hx;injection hx with hx;exact hx.symm
     rw[←this];exact h0 ht0
    ·exact h.f2 k y hy fun e=>⟨(hk e).1,fun e2=>absurd e2 hs1⟩
   ·exact h.f2 k y hy fun e=>absurd e ht0
  ·exact h.f2 k y hy fun a=>⟨(hk a).1,fun b=>by have:=(hk a).2 b;omega⟩
 ·by_cases hki:k=i
  ·by_cases ht0:t=1
   ·by_cases hs1:s=1
    ·subst hki hs1
     have:x=y:=by unfold sideC at hx;rw[if_pos rfl,hy]at hx;injection hx with hx;exact hx.symm
     rw[←this];exact h1 ht0
    ·exact h.r1 hn k y hy fun _ e=>absurd e hs1
   ·exact h.r1 hn k y hy fun e=>absurd e ht0
  ·exact h.r1 hn k y hy fun a b=>by have:=hk a b;omega
 ·by_cases hki:k=i
  ·by_cases ht0:t=1
   ·by_cases hs1:s=2
    ·subst hki hs1
     have:x=y:=by unfold sideC at hx;rw[if_neg (by omega),hy]at hx;injection hx with hx;exact hx.symm
     rw[←this];exact h1 ht0
    ·exact h.r2 hn k y hy fun e=>⟨(hk e).1,fun e2=>absurd e2 hs1⟩
   ·exact h.r2 hn k y hy fun e=>absurd e ht0
  ·exact h.r2 hn k y hy fun a=>⟨(hk a).1,fun b=>by have:=(hk a).2 b;omega⟩
theorem BE.side {p:Pl}{L R:List Chn}{t s:Nat}(h:BE p L R t s (sideC L R s).length)(hs:s=1∨s=2):BE p L R t (s+1) 0:=by
 have hl: ∀ {l:List Chn} {k:Nat} {x:Chn},l[k]?=some x→k<l.length:=fun h=>(List.getElem?_eq_some_iff.1 h).1;refine⟨fun k y hy hk=>h.f1 k y hy fun _ e=> ?_,fun k y hy hk=>h.f2 k y hy fun e=> ?_,fun hn k y hy hk=>h.r1 hn k y hy fun _ e=> ?_,fun hn k y hy hk=>h.r2 hn k y hy fun e=> ?_⟩
 ·subst e;unfold sideC;rw[if_pos rfl];exact hl hy
 ·rcases hs with rfl|rfl
  ·have:=(hk e).2 rfl;omega
  ·exact⟨by omega,fun _=>by unfold sideC;rw[if_neg (by omega)];exact hl hy⟩
 ·subst e;unfold sideC;rw[if_pos rfl];exact hl hy
 ·rcases hs with rfl|rfl
  ·have:=(hk e).2 rfl;omega
  ·exact⟨by omega,fun _=>by unfold sideC;rw[if_neg (by omega)];exact hl hy⟩
theorem BE.turn {p:Pl}{L R:List Chn}{t:Nat}(h:BE p L R t 3 0)(ht:t<2):BE p L R (t+1) 1 0:=by
 refine⟨fun k y hy _=>h.f1 k y hy fun _ e=>absurd e (by omega),fun k y hy _=>h.f2 k y hy fun _=>⟨by omega,fun e=>absurd e (by omega)⟩,fun _ k y hy hk=> ?_,fun _ k y hy hk=> ?_⟩
 ·by_cases h0:t=0
  ·subst h0;exact absurd (hk rfl rfl) (Nat.not_lt_zero _)
  ·exact h.r1 h0 k y hy fun _ e=>absurd e (by omega)
 ·by_cases h0:t=0
  ·subst h0;have:=(hk rfl).1;omega
  ·exact h.r2 h0 k y hy fun _=>⟨by omega,fun e=>absurd e (by omega)⟩
theorem BE.fitsAll {p:Pl}{L R:List Chn}{t s i:Nat}(h:BE p L R t s i)(ht:t≠0): ∀x∈ac L++ac R,fitsB x.1=true:=by
 intro x hx;rcases List.mem_append.1 hx with hx|hx
 ·obtain⟨c,hc,rfl⟩:=List.mem_map.1 hx
  obtain⟨k,hk⟩:=List.mem_iff_getElem?.1 hc;exact h.f1 k c hk fun e=>absurd e ht
 ·obtain⟨c,hc,rfl⟩:=List.mem_map.1 hx
  obtain⟨k,hk⟩:=List.mem_iff_getElem?.1 hc;exact h.f2 k c hk fun e=>absurd e ht
theorem BE.row {p:Pl}{L R:List Chn}{s i:Nat}{x:Chn}(h:BE p L R 1 s i)(hs:s=1∨s=2)(h0:checkP p=0)(hf: ¬(120<(ac L).length∨120<(ac R).length∨120<(ac L).length+(ac R).length))(hx:(sideC L R s)[i]?=some x){e:Int}(he:rowE p (s:Int) x.r=e)(hne:e≠0):batchE p (ac L) (ac R)=e:=by
 rw[bE_rows h0 hf (h.fitsAll (by decide))];rcases hs with rfl|rfl
 ·unfold sideC at hx
  rw[if_pos rfl]at hx
  have h1:=rows_hit (q:=rowE p 1) hx (fun y hy=>by
   obtain⟨k,hk⟩:=List.mem_iff_getElem?.1 hy;have hki:k<i:=by have:=(List.getElem?_eq_some_iff.1 hk).1;rw[List.length_take]at this;omega
   rw[List.getElem?_take_of_lt hki]at hk;exact h.r1 (by decide) k y hk fun _ _=>hki) he hne
  rw[h1,if_pos hne]
 ·unfold sideC at hx
  rw[if_neg (by decide)]at hx
  have h1:=rows_hit (q:=rowE p 2) hx (fun y hy=>by
   obtain⟨k,hk⟩:=List.mem_iff_getElem?.1 hy;have hki:k<i:=by have:=(List.getElem?_eq_some_iff.1 hk).1;rw[List.length_take]at this;omega
   rw[List.getElem?_take_of_lt hki]at hk;exact h.r2 (by decide) k y hk fun _=>⟨by decide,fun _=>hki⟩) he hne
  rw[rows_zero (q:=rowE p 1) (fun y hy=>by
   obtain⟨k,hk⟩:=List.mem_iff_getElem?.1 hy;exact h.r1 (by decide) k y hk fun _ e=>absurd e (by decide)),if_neg (fun e=>e rfl),h1]
theorem BE.done {p:Pl}{L R:List Chn}(h:BE p L R 2 1 0)(h0:checkP p=0)(hf: ¬(120<(ac L).length∨120<(ac R).length∨120<(ac L).length+(ac R).length)):batchE p (ac L) (ac R)=0:=by
 rw[bE_rows h0 hf (h.fitsAll (by decide)),rows_zero (q:=rowE p 1) (fun y hy=>by
  obtain⟨k,hk⟩:=List.mem_iff_getElem?.1 hy;exact h.r1 (by decide) k y hk fun e=>absurd e (by decide)),if_neg (fun e=>e rfl),rows_zero (q:=rowE p 2) (fun y hy=>by
  obtain⟨k,hk⟩:=List.mem_iff_getElem?.1 hy;exact h.r2 (by decide) k y hk fun e=>absurd e (by decide))]
set_option maxHeartbeats 16000000 in
set_option maxRecDepth 10000 in
theorem batchError_any (p:Pl)(vL vR:Value)(L R:List Chn)(w:World)(h:p.ok w)(hL:Chs w vL L)(hR:Chs w vR R)(hfl: ∀x∈L,Fine x.r)(hfr: ∀x∈R,Fine x.r):
 Calls Tryz.prog 11 #[.agg #[.int .i64 p.kind,.int .i64 p.mode,.int .i64 p.low,.int .i64 p.high,.int .i64 p.size,.int .i64 p.limit,p.vl,p.vr,p.vk,p.vq,.bool p.grouped,p.vg,p.va],vL,vR] w fun e w'=>e= .returned (.int .i64 (batchE p (ac L) (ac R)))∧Below w.heap.size w w':=by
 have HCK:=Lib.hid (fun(W:World) (hb:Below w.heap.size w W)=>checkPlan_any p W (h.below hb))
 have HS:=Lib.hid (show ∀s,s=1∨s=2→Chs w (sideV vL vR s) (sideC L R s)∧ ∀x∈sideC L R s,Fine x.r from fun s hs=>by
  rcases hs with rfl|rfl
  ·exact⟨hL,hfl⟩
  ·exact⟨hR,hfr⟩)
 have HRW:=Lib.hid (fun(W:World) (hb:Below w.heap.size w W) (hz:checkP p=0) (s:Nat) (hs:s=1∨s=2) (x:Chn) (hx:x∈sideC L R s)=>rowError_any p s x.v x.r W (h.below hb) (counts_short (check_ok hz).2.2.1) (((HS.out s hs).1.rows x hx).below hb) ((HS.out s hs).2 x hx).small);obtain⟨E,hE⟩: ∃y,batchE p (ac L) (ac R)=y:=⟨_,rfl⟩;rw[hE];have HEE:=Lib.hid hE.symm;have lac:(ac L).length=L.length∧(ac R).length=R.length:=⟨List.length_map _,List.length_map _⟩;have HAC:=Lib.hid lac;obtain⟨A0,c0,h0,n0,m0,-⟩:=id h.l;obtain⟨A1,c1,h1,n1,m1,-⟩:=id h.r;obtain⟨A2,c2,h2,n2,m2,-⟩:=id h.k;obtain⟨A3,c3,h3,n3,m3,-⟩:=id h.q;obtain⟨A4,c4,h4,n4,m4,-⟩:=id h.g;obtain⟨A5,c5,h5,n5,m5,-⟩:=id h.a;obtain⟨AL,cL,hvL,nL,mL,-⟩:=id hL.sl;obtain⟨AR,cR,hvR,nR,mR,-⟩:=id hR.sl;subst hvL hvR;unfold maxLen at mL mR;rw[h0,h1,h2,h3,h4,h5]at HCK HRW⊢;have HB:=Lib.hid (below_alloc w (.cells #[.int .i64 p.kind,.int .i64 p.mode,.int .i64 p.low,.int .i64 p.high,.int .i64 p.size,.int .i64 p.limit,.slice A0 p.left.length c0,.slice A1 p.right.length c1,.slice A2 p.lkeys.length c2,.slice A3 p.rkeys.length c3,.bool p.grouped,.slice A4 p.group.length c4,.slice A5 p.aggs.length c5] 25));have HK0:=Lib.hid (Blk.new w 25 #[.int .i64 p.kind,.int .i64 p.mode,.int .i64 p.low,.int .i64 p.high,.int .i64 p.size,.int .i64 p.limit,.slice A0 p.left.length c0,.slice A1 p.right.length c1,.slice A2 p.lkeys.length c2,.slice A3 p.rkeys.length c3,.bool p.grouped,.slice A4 p.group.length c4,.slice A5 p.aggs.length c5]);obtain⟨W1,hW1⟩: ∃V,w.alloc (.cells #[.int .i64 p.kind,.int .i64 p.mode,.int .i64 p.low,.int .i64 p.high,.int .i64 p.size,.int .i64 p.limit,.slice A0 p.left.length c0,.slice A1 p.right.length c1,.slice A2 p.lkeys.length c2,.slice A3 p.rkeys.length c3,.bool p.grouped,.slice A4 p.group.length c4,.slice A5 p.aggs.length c5] 25)=V:=⟨_,rfl⟩;rw[hW1]at HB HK0;have hb1:=HB.out;have hyW:Below W1.heap.size W1 W1:=Below.refl _ _;obtain⟨z0,z1,z2,z3,z4,z5,z6,z7,z8,z9,z10,z11,z12⟩:=pl_cells HK0.out;obtain⟨E1,hE1⟩: ∃y,checkP p=y:=⟨_,rfl⟩;rw[hE1]at HCK;have HE1:=Lib.hid hE1;clear h h0 h1 h2 h3 h4 h5 n0 n1 n2 n3 n4 n5 m0 m1 m2 m3 m4 m5 hL hR hfl hfr hE lac hE1;go_enter Tryz.func11,Tryz.ntmps11
 go_wp2_with fail
 refine Calls.mono (by with_reducible exact HCK.out _ hb1) ?_;rintro e w2 ⟨rfl,hb2⟩;have hyr:=hb2;have hbr:=below_trans hb1 hb2;clear z0 z1 z2 z3 z4 z5 z6 z7 z8 z9 z10 z11 z12 hb2 hyW hW1;by_cases hq1:E1=0
 case neg=>
  have q1:=bneT hq1;have HE:Hid (E=E1):=Lib.hid (by rw[HEE.out];unfold batchE;rw[HE1.out,if_pos hq1]);clear hq1;go_wp2;go_ret;exact⟨by rw[HE.out];rfl,hbr⟩
 have q1:=bneF hq1;have HZ0:Hid (checkP p=0):=Lib.hid (HE1.out.trans hq1);clear hq1;by_cases g1:120<L.length
 ·have g1':(120:Int)<(L.length:Int):=by omega
  have HE:Hid (E=2):=Lib.hid (by rw[HEE.out];exact bE_many HZ0.out (.inl (by rw[HAC.out.1];exact g1)));go_wp2;go_ret;exact⟨by rw[HE.out];rfl,hbr⟩
 have g1':decide ((120:Int)<(L.length:Int))=false:=decide_eq_false (by omega);have g1n:decide (120<L.length)=false:=decide_eq_false g1;have g0:L.length≤120:=by omega
 by_cases g3:120<L.length+R.length
 ·have g3':(120:Int)-(L.length:Int)<(R.length:Int):=by omega
  have HE:Hid (E=2):=Lib.hid (by rw[HEE.out];exact bE_many HZ0.out (.inr (.inr (by rw[HAC.out.1,HAC.out.2];exact g3))));go_wp2;go_ret;exact⟨by rw[HE.out];rfl,hbr⟩
 have g3':decide ((120:Int)-(L.length:Int)<(R.length:Int))=false:=decide_eq_false (by omega);have HFEW:Hid (¬(120<(ac L).length∨120<(ac R).length∨120<(ac L).length+(ac R).length)):=Lib.hid (by rw[HAC.out.1,HAC.out.2];omega);have HLN:Hid (L.length≤120∧R.length≤120):=Lib.hid (by omega);clear g1 g3 g0
 go_wp2_with fail
 go_loopw[8,9,10,11,12] (fun tv _ _ _ _ wr=> ∃t:Nat,t≤2∧tv= .int .i64 t∧Hid (BE p L R t 1 0)∧Below W1.heap.size W1 wr) (fun tv _ _ _ _ _=>2-(intOf tv).toNat)
 case atStart=>exact⟨0,by omega,rfl,Lib.hid BE.start,hyr⟩
 case round=>
  clear g1' g1n g3' hyr hbr;rename World=>wr
  obtain⟨t,ht,rfl,HBE,hyr⟩:=hrel;by_cases hlt:t<2
  ·have t1:(t:Int)<2:=by omega
   go_wp2_with fail
   go_loopw[9,10,11,12] (fun sv _ _ _ wr=> ∃s:Nat,1≤s∧s≤3∧sv= .int .i64 s∧Hid (BE p L R t s 0)∧Below W1.heap.size W1 wr) (fun sv _ _ _ _=>3-(intOf sv).toNat)
   case atStart=>exact⟨1,by omega,by omega,rfl,HBE,hyr⟩
   case round=>
    clear HBE hyr;rename World=>wr1
    obtain⟨s,hs1,hs3,rfl,HBE,hyr⟩:=hrel;by_cases hls:s≤2
    ·have hs:s=1∨s=2:=by omega
     have HSS:=Lib.hid hs;have s1:(s:Int)≤2:=by omega
     obtain⟨vS,hvS⟩: ∃v,sideV (.slice AL L.length cL) (.slice AR R.length cR) s=v:=⟨_,rfl⟩;obtain⟨C,hC⟩: ∃v,sideC L R s=v:=⟨_,rfl⟩;have hCC:=HS.out s hs;rw[hvS,hC]at hCC;have HRS:=Lib.hid (fun(W:World) (hb:Below w.heap.size w W) (x:Chn) (hx:x∈C)=>HRW.out W hb HZ0.out s hs x (by rw[hC];exact hx));have HCH:=Lib.hid hCC.1;have HCE:=Lib.hid hC;have HVE:=Lib.hid hvS;have HBE0:Hid (BE p L R t s 0):=HBE;have hCl:C.length≤120:=by rw[←hC];unfold sideC;have:=HLN.out;split<;>omega
     clear hCC hC hvS HBE;have HLT:=Lib.hid (show t<2 by assumption);clear hlt t1
     go_upto_if 39 with fail
     go_cut[10]from 33 to 72 (fun lv wx=>lv=vS∧wx=wr1)
     case first=>
      rcases hs with rfl|rfl
      ·go_wp2
       go_meet
       exact⟨by rw[←HVE.out];rfl,rfl⟩
      ·go_wp2
       go_meet
       exact⟨by rw[←HVE.out];rfl,rfl⟩
     case rest=>
      obtain⟨rfl,hwx⟩:=hcut;rw[hwx];clear hwx wc;obtain⟨AS,cS,hv,nS,mS,-⟩:=id HCH.out.sl;subst hv;unfold maxLen at mS;clear hs
      go_wp2_with fail
      go_loopw[11,12] (fun iv _ wr2=> ∃i:Nat,i≤C.length∧iv= .int .i64 i∧Hid (BE p L R t s i)∧Below W1.heap.size W1 wr2) (fun iv _ _=>C.length-(intOf iv).toNat)
      case atStart=>exact⟨0,by omega,rfl,HBE0,hyr⟩
      case round=>
       clear HBE0 hyr;rename World=>wr2
       obtain⟨i,hi,rfl,HBE,hyr⟩:=hrel;by_cases hli:i<C.length
       ·have hbr:=below_trans HB.out hyr
        have hx:=List.getElem?_eq_getElem (l:=C) hli;generalize C[i]=x at hx;have hxm:=List.mem_of_getElem? hx;obtain⟨Ax,cx,ex,nx,mx,-⟩:=id (HCH.out.rows x hxm);obtain⟨xv,xr,xk⟩:=x;simp only at ex nx;subst ex;obtain⟨x,hxe⟩: ∃x,x=(⟨.slice Ax xr.length cx,xr,xk⟩:Chn):=⟨_,rfl⟩;have hxr:xr=x.r:=by rw[hxe]
        have hxk:xk=x.k:=by rw[hxe]
        have hxv:x.v= .slice Ax x.r.length cx:=by rw[hxe]
        rw[←hxe]at hx hxm;clear hxe;subst hxr hxk;obtain⟨bv,ov,hAv,-,hcb⟩:=chn_at HCH.out.sl rfl hx;subst hAv;obtain⟨d0,d1⟩:=hcb _ hbr;rw[hxv]at d1;have HRX:=Lib.hid (fun(W:World) (hb:Below w.heap.size w W)=>HRS.out W hb x hxm);rw[hxv]at HRX;obtain⟨EX,hEX⟩: ∃y,rowE p (s:Int) x.r=y:=⟨_,rfl⟩;rw[hEX]at HRX;have HEX:=Lib.hid hEX;have HXI:Hid ((sideC L R s)[i]?=some x):=Lib.hid (by rw[HCE.out];exact hx);have HFT:=Lib.hid (fun W=>rfits_any x.k W);obtain⟨fx,hfx⟩: ∃y,fitsB x.k=y:=⟨_,rfl⟩;rw[hfx]at HFT;have HFX:=Lib.hid hfx
        have HSSS:=Lib.hid (show ∀w',Below W1.heap.size W1 w'→w'.cell? ⟨w.heap.size,0,none⟩=some (.int .i64 p.kind)∧w'.cell? ⟨w.heap.size,1,none⟩=some (.int .i64 p.mode)∧w'.cell? ⟨w.heap.size,2,none⟩=some (.int .i64 p.low)∧w'.cell? ⟨w.heap.size,3,none⟩=some (.int .i64 p.high)∧w'.cell? ⟨w.heap.size,4,none⟩=some (.int .i64 p.size)∧w'.cell? ⟨w.heap.size,5,none⟩=some (.int .i64 p.limit)∧w'.cell? ⟨w.heap.size,6,none⟩=some (.slice A0 p.left.length c0)∧w'.cell? ⟨w.heap.size,7,none⟩=some (.slice A1 p.right.length c1)∧w'.cell? ⟨w.heap.size,8,none⟩=some (.slice A2 p.lkeys.length c2)∧w'.cell? ⟨w.heap.size,9,none⟩=some (.slice A3 p.rkeys.length c3)∧w'.cell? ⟨w.heap.size,10,none⟩=some (.bool p.grouped)∧w'.cell? ⟨w.heap.size,11,none⟩=some (.slice A4 p.group.length c4)∧w'.cell? ⟨w.heap.size,12,none⟩=some (.slice A5 p.aggs.length c5)∧w'.cell? ⟨bv,ov+i*2+1,none⟩=some (.slice Ax x.r.length cx)from fun w' hb=>by
         obtain⟨z0,z1,z2,z3,z4,z5,z6,z7,z8,z9,z10,z11,z12⟩:=pl_cells (HK0.out.below hb);have h1:=(hcb _ (below_trans HB.out hb)).2;rw[hxv]at h1;exact⟨z0,z1,z2,z3,z4,z5,z6,z7,z8,z9,z10,z11,z12,h1⟩)
        have i0:(0:Int)≤(i:Int):=by omega
        have i1:(i:Int)<(C.length:Int):=by omega
        have hyd:=hyr.drew;clear hx hxm hcb hxv hEX hfx hbr
        go_upto_region 18 with fail
        go_cut[57]from 41 to 72 (fun cv wx=> ∃Q:Bool,cv= .bool Q∧Hid (Q=((t==0)&& !fx))∧wx=wr2)
        case first=>
         have ht01:t=0∨t=1:=by have:=HLT.out;omega
         rcases ht01 with rfl|rfl
         ·go_wp2_with fail
          refine Calls.mono (by with_reducible exact HFT.out _) ?_;rintro e w6 ⟨rfl,rfl⟩;cases fx
          all_goals
           go_wp2
           go_meet
           exact⟨_,rfl,Lib.hid rfl,rfl⟩
         ·go_wp2
          go_meet
          exact⟨_,rfl,Lib.hid rfl,rfl⟩
        case rest=>
         obtain⟨Q,rfl,HQ,hwx⟩:=hcut;rw[hwx];clear hwx wc;cases Q
         ·go_upto_region 20 with fail
          go_region_held3 (fun w'=>w'.cell? ⟨w.heap.size,0,none⟩=some (.int .i64 p.kind)∧w'.cell? ⟨w.heap.size,1,none⟩=some (.int .i64 p.mode)∧w'.cell? ⟨w.heap.size,2,none⟩=some (.int .i64 p.low)∧w'.cell? ⟨w.heap.size,3,none⟩=some (.int .i64 p.high)∧w'.cell? ⟨w.heap.size,4,none⟩=some (.int .i64 p.size)∧w'.cell? ⟨w.heap.size,5,none⟩=some (.int .i64 p.limit)∧w'.cell? ⟨w.heap.size,6,none⟩=some (.slice A0 p.left.length c0)∧w'.cell? ⟨w.heap.size,7,none⟩=some (.slice A1 p.right.length c1)∧w'.cell? ⟨w.heap.size,8,none⟩=some (.slice A2 p.lkeys.length c2)∧w'.cell? ⟨w.heap.size,9,none⟩=some (.slice A3 p.rkeys.length c3)∧w'.cell? ⟨w.heap.size,10,none⟩=some (.bool p.grouped)∧w'.cell? ⟨w.heap.size,11,none⟩=some (.slice A4 p.group.length c4)∧w'.cell? ⟨w.heap.size,12,none⟩=some (.slice A5 p.aggs.length c5)∧w'.cell? ⟨bv,ov+i*2+1,none⟩=some (.slice Ax x.r.length cx))
           (first|exact HSSS.out _ hyd|exact HSSS.out _ hy6|go_keep)
           ((go_at_call 40;refine(HRX.out _ (below_trans HB.out hyd)).mono ?_;rintro e w6 ⟨rfl,hb6⟩;have hy6:=hyd.trans (hb6.mono hyd.size)))
          all_goals
           clear hyd hb6 d0 d1
           go_upto_region 21 with fail
           go_cut[71]from 41 to 72 (fun cv wx=> ∃Q2:Bool,cv= .bool Q2∧Hid (Q2=((t==1)&&(EX != 0)))∧wx=w6)
           case first=>
            have ht01:t=0∨t=1:=by have:=HLT.out;omega
            rcases ht01 with rfl|rfl
            ·go_wp2
             go_meet
             exact⟨_,rfl,Lib.hid rfl,rfl⟩
            ·cases hq:(EX != 0)
             all_goals
              have HQQ:=Lib.hid hq;go_wp2
              go_meet
              exact⟨_,rfl,Lib.hid (by rw[HQQ.out];rfl),rfl⟩
           case rest=>
            obtain⟨Q2,rfl,HQ2,hwx⟩:=hcut;rw[hwx];clear hwx wc;cases Q2
            ·have HN:=Lib.hid (HBE.out.step HSS.out HLT.out HXI.out (fun e=>by
              have h:=HQ.out;subst e;rw[HFX.out];cases fx
              ·simp at h
              ·rfl) (fun e=>by
              have h:=HQ2.out;subst e;rw[HEX.out];by_cases hz:EX=0
              ·exact hz
              ·simp[hz]at h))
             go_wp2_with fail
             go_roundw
             case rel=>exact⟨i+1,by omega,by go_num,HN,hy6⟩
             case measure=>simp[intOf];omega
            ·have HE:Hid (E=EX):=Lib.hid (by
              have h:=HQ2.out
              have ht1:t=1:=by
               by_cases h1:t=1
               ·exact h1
               ·simp[h1]at h
              have hne:EX≠0:=fun e=>by simp[e]at h
              rw[HEE.out];have hbe:=HBE.out;rw[ht1]at hbe;exact hbe.row HSS.out HZ0.out HFEW.out HXI.out HEX.out hne)
             go_wp2_with fail
             go_ret;exact⟨by rw[HE.out];rfl,below_trans HB.out hy6⟩
         ·have HE:Hid (E=3):=Lib.hid (by
           have h:=HQ.out
           have hf:fitsB x.k=false:=by
            rw[HFX.out];cases fx
            ·rfl
            ·simp at h
           rw[HEE.out];refine bE_range HZ0.out HFEW.out (x:=(x.k,x.r)) ?_ hf;have hx:=List.mem_of_getElem? HXI.out;unfold sideC at hx;split at hx
           ·exact List.mem_append_left _ (List.mem_map.2 ⟨x,hx,rfl⟩)
           ·exact List.mem_append_right _ (List.mem_map.2 ⟨x,hx,rfl⟩))
          go_wp2_with fail
          go_ret;exact⟨by rw[HE.out];rfl,below_trans HB.out hyr⟩
       ·obtain rfl:i=C.length:=by omega
        have HN:Hid (BE p L R t (s+1) 0):=Lib.hid (by
         have h:=HBE.out;rw[←HCE.out]at h;exact h.side HSS.out)
        have hss:=HSS.out
        go_wp2_with fail
        go_roundw
        case rel=>exact⟨s+1,by omega,by omega,by go_num,HN,hyr⟩
        case measure=>simp[intOf];omega
    ·obtain rfl:s=3:=by omega
     have HN:=Lib.hid (HBE.out.turn hlt)
     go_wp2_with fail
     go_roundw
     case rel=>exact⟨t+1,by omega,by go_num,HN,hyr⟩
     case measure=>simp[intOf];omega
  ·obtain rfl:t=2:=by omega
   have HE:Hid (E=0):=Lib.hid (by rw[HEE.out];exact HBE.out.done HZ0.out HFEW.out);go_wp2;go_ret;exact⟨by rw[HE.out];rfl,below_trans HB.out hyr⟩
end Go.Proofs.YtjhbeecmdgglgaaGreatDoor
namespace Go.Proofs.YtjhbeecmdgglgaaGreatDoor
def viewR (rows:List (List Val)):AV:=(foldR [] 0 (rows.map fun r=>(1,r))).1
theorem i_look {A:AV}{r:List Val}{m:Int}(hm:0≤m)(h: ∀q∈A,1≤q.2∧q.2≤m):0≤lookA A r∧lookA A r≤m:=by
 induction A with
 |nil=>unfold lookA;omega
 |cons q A ih=>
  unfold lookA;split
  ·have:=h q (by simp);omega
  ·exact ih fun x hx=>h x (by simp[hx])
theorem i_len {A:AV}{r:List Val}{n:Int}:(putA A r n).length≤A.length+1:=by
 induction A with
 |nil=>simp[putA]
 |cons q A ih=>
  obtain⟨x,m⟩:=q;unfold putA;split
  ·simp
  ·split<;>simp<;>omega
theorem i_add {A:AV}{r:List Val}{m:Nat}(hq: ∀q∈A,1≤q.2∧q.2≤(m:Int))(hA:A.length≤m)(hm:m<4096):addR A r 1=(putA A r (lookA A r+1),0):=by
 have hlk:=i_look (r:=r) (m:=m) (by omega) hq;unfold addR;rw[if_neg (by omega),if_neg (by rintro(h|⟨-,-,h⟩)<;>omega),if_neg (by omega)]
structure VR (rows:List (List Val)) (A:AV):Prop where
 eq:A=rows.foldl (fun A r=>(addR A r 1).1) []
 rises:Rises A
 nums: ∀q∈A,1≤q.2∧q.2≤(rows.length:Int)
 len:A.length≤rows.length
theorem VR.start:VR [] []:=⟨rfl,Rises.nil,nofun,Nat.le_refl _⟩
theorem VR.look {rows:List (List Val)}{A:AV}(h:VR rows A)(r:List Val):0≤lookA A r∧lookA A r≤rows.length:=i_look (by omega) h.nums
theorem VR.step {rows:List (List Val)}{A:AV}{r:List Val}(h:VR rows A)(hl:rows.length<4096)(hg:GoodR r):VR (rows++[r]) (addR A r 1).1:=by
 have hlk:=h.look r;have e:=i_add (r:=r) h.nums h.len hl;refine⟨?_,?_,?_,?_⟩
 ·rw[List.foldl_append,←h.eq];rfl
 ·rw[e];exact rises_put h.rises hg
 ·rw[e,List.length_append]
  intro q hq;rcases put_mem2 hq with h1|h1
  ·have:=h.nums q h1;simp;omega
  ·rw[h1];simp;omega
 ·rw[e,List.length_append];exact Nat.le_trans i_len (by have:=h.len;simp;omega)
theorem i_foldR: ∀ {rows:List (List Val)} {A:AV} {m:Nat} {i:Int},(∀q∈A,1≤q.2∧q.2≤(m:Int))→A.length≤m→m+rows.length≤4096→foldR A i (rows.map fun r=>(1,r))=(rows.foldl (fun A r=>(addR A r 1).1) A,0,0)
 |[],_,_,_,_,_,_=>rfl
 |r::l,A,m,i,hq,hA,hl=>by
  simp only[List.length_cons]at hl;have hlk:=i_look (r:=r) (m:=m) (by omega) hq;have e:=i_add (r:=r) hq hA (by omega);have h1:stepI 1=1:=rfl;rw[List.map_cons];unfold foldR;simp only[h1,e];rw[if_pos trivial,List.foldl_cons,e];refine i_foldR (m:=m+1) (fun q hq'=> ?_) (Nat.le_trans i_len (by omega)) (by omega);rcases put_mem2 hq' with h|h
  ·have:=hq q h;omega
  ·rw[h];omega
theorem VR.done {rows:List (List Val)}{A:AV}(h:VR rows A)(hl:rows.length≤4096):A=viewR rows:=by
 unfold viewR;rw[i_foldR (m:=0) (fun q hq=>by cases hq) (Nat.le_refl _) (by omega),h.eq]
theorem i_fine {r:List Val}(h:GoodR r):Fine r:=⟨fun x hx=>Nat.le_trans (good_size (h.good x hx).1) (by omega),fun x hx=>(h.good x hx).2⟩
theorem i_keyErr {r:List Val}(h:GoodR r):keyErr r=0:=by
 unfold keyErr;rw[if_neg (by have:=h.few;omega)]
 exact firstNZ_none fun x hx=>by
  obtain⟨y,hy,rfl⟩:=List.mem_map.1 hx;exact(h.good y hy).1
theorem ins_fold {rows:List (List Val)}{m:List Chn}(h:ac m=rows.map fun r=>(1,r))(hg: ∀r∈rows,GoodR r)(hl:rows.length≤4096):FineC m∧foldS [] m=(viewR rows,0,0):=by
 have hlen:m.length=rows.length:=by
  have h1:=congrArg List.length h;unfold ac at h1;rwa[List.length_map,List.length_map]at h1
 have hin: ∀c∈m,c.k=1∧GoodR c.r:=fun c hc=>by
  have h1:(c.k,c.r)∈ac m:=List.mem_map.2 ⟨c,hc,rfl⟩;rw[h]at h1;obtain⟨r,hr,e⟩:=List.mem_map.1 h1;injection e with e1 e2;exact⟨e1.symm,by rw[←e2];exact hg r hr⟩
 refine⟨⟨fun c hc=>i_fine (hin c hc).2,fun c hc=>by rw[(hin c hc).1];omega⟩,?_⟩
 have hf:formC m=0:=by
  unfold formC;rw[if_neg (by omega)];refine firstNZ_none fun x hx=> ?_;obtain⟨i,hi,rfl⟩:=List.mem_map.1 hx;have e:=List.getElem?_eq_getElem (l:=m) (List.mem_range.1 hi);have h1:=hin _ (List.getElem_mem (List.mem_range.1 hi));exact err_no e (by omega) (by omega) (i_keyErr h1.2) (by rw[h1.1];omega)
 unfold foldS;rw[show chkV []=0 from rfl,if_neg (by omega),hf,if_neg (by omega),h,show av []=[]from rfl,i_foldR (m:=0) (fun q hq=>by cases hq) (Nat.le_refl _) (by omega)];unfold viewR;rw[i_foldR (m:=0) (fun q hq=>by cases hq) (Nat.le_refl _) (by omega)]
end Go.Proofs.YtjhbeecmdgglgaaGreatDoor
namespace Go.Proofs.YtjhbeecmdgglgaaGreatDoor
open tm (fitsB)
theorem up_ext: ∀ {l m:List Int},l.Pairwise (· < ·)→m.Pairwise (· < ·)→(∀x,x∈l↔x∈m)→l=m
 |[],[],_,_,_=>rfl
 |[],y::m,_,_,h=>by have:=(h y).2 (by simp);cases this
 |x::l,[],_,_,h=>by have:=(h x).1 (by simp);cases this
 |x::l,y::m,hl,hm,h=>by
  have hl':=List.pairwise_cons.1 hl;have hm':=List.pairwise_cons.1 hm
  have e:x=y:=by
   rcases List.mem_cons.1 ((h x).1 (by simp))with e|h1
   ·exact e
   ·rcases List.mem_cons.1 ((h y).2 (by simp))with e|h2
    ·exact e.symm
    ·have:=hl'.1 y h2;have:=hm'.1 x h1;omega
  subst e;rw[up_ext hl'.2 hm'.2 fun z=> ?_];constructor
  ·intro hz
   rcases List.mem_cons.1 ((h z).1 (List.mem_cons_of_mem _ hz))with e|h1
   ·have:=hl'.1 z hz;omega
   ·exact h1
  ·intro hz
   rcases List.mem_cons.1 ((h z).2 (List.mem_cons_of_mem _ hz))with e|h1
   ·have:=hm'.1 z hz;omega
   ·exact h1
theorem best_mem {R:List Cg}{t:Int}{l:List Int}{b:Int}(hu:l.Pairwise (· < ·))(h:bestI R t l=some b):b∈l:=by
 have:=best_is (R:=R) (t:=t) hu;rw[h]at this;exact this.1
theorem with_mem {p:Pl}{R:List Cg}{x:Cg}{i:Int}(h:i∈withI p R x):0≤i∧i<R.length:=by
 unfold withI at h;split at h
 ·split at h
  ·have:=idxs_mem.1 (best_mem (idxs_up _ _ _) (Option.mem_toList.1 h))
   exact⟨this.1,this.2.1⟩
  ·have:=idxs_mem.1 (List.mem_filter.1 h).1
   exact⟨this.1,this.2.1⟩
 ·cases h
theorem with_up (p:Pl)(R:List Cg)(x:Cg):(withI p R x).Pairwise (· < ·):=by
 unfold withI;split
 ·split
  ·cases bestI R x.1 (idxs p R (keyFor p 1 x.2).1)with
   |none=>exact List.Pairwise.nil
   |some b=>exact List.pairwise_singleton _ _
  ·exact(idxs_up _ _ _).filter _
 ·exact List.Pairwise.nil
def withN (p:Pl) (R:List Cg) (x:Cg) (k:Nat):List Int:=((List.range k).filter fun i=>(withI p R x).contains ((i:Nat):Int)).map fun i=>((i:Nat):Int)
theorem withN_all (p:Pl)(R:List Cg)(x:Cg):withN p R x R.length=withI p R x:=by
 refine up_ext ?_ (with_up p R x) fun i=> ?_
 ·unfold withN
  rw[List.pairwise_map];exact(List.pairwise_lt_range.filter _).imp fun h=>by omega
 ·unfold withN
  rw[List.mem_map];constructor
  ·rintro⟨n,hn,rfl⟩
   rw[List.mem_filter]at hn;simpa using hn.2
  ·intro h
   have h1:=with_mem h;refine⟨i.toNat,?_,by omega⟩;rw[List.mem_filter,List.mem_range];refine⟨by omega,?_⟩;rw[show((i.toNat:Nat):Int)=i by omega];simpa using h
theorem withN_zero (p:Pl)(R:List Cg)(x:Cg):withN p R x 0=[]:=rfl
theorem withN_step (p:Pl)(R:List Cg)(x:Cg)(k:Nat):withN p R x (k+1)=withN p R x k++if(withI p R x).contains ((k:Nat):Int)=true then[(k:Int)]else[]:=by
 unfold withN;rw[List.range_succ,List.filter_append,List.map_append]
 congr 1
 rw[List.filter_cons];split<;>rfl
theorem with_pair {p:Pl}{R:List Cg}{x:Cg}{k:Nat}(hk:p.kind≠3)(hl:k<R.length):
 (withI p R x).contains (k:Int)=((keyFor p 1 x.2).2&&((keyFor p 2 (rowAt R k)).2&&(decide ((keyFor p 1 x.2).1=(keyFor p 2 (rowAt R k)).1)&&meetT p.kind p.low p.high p.size x.1 (timeAt R k)))):=by
 rw[Bool.eq_iff_iff,List.contains_iff_mem];unfold withI;rw[if_neg hk];by_cases h1:(keyFor p 1 x.2).2=true
 ·rw[if_pos h1,List.mem_filter,idxs_mem,h1]
  unfold keyed;simp only[Bool.and_eq_true,decide_eq_true_eq,Int.toNat_natCast,Bool.true_and];constructor
  ·rintro⟨⟨-,-,h2,h3⟩,h4⟩
   exact⟨h2,h3.symm,h4⟩
  ·rintro⟨h2,h3,h4⟩
   exact⟨⟨by omega,by omega,h2,h3.symm⟩,h4⟩
 ·rw[if_neg h1]
  simp[h1]
def idxsN (p:Pl) (R:List Cg) (k:ByteArray) (n:Nat):List Int:=((List.range n).filter fun i=>keyed p 2 (rowAt R i) k).map fun i=>((i:Nat):Int)
def optI:Option Int→Int
 |some b=>b
 |none=> -1
theorem idxsN_step (p:Pl)(R:List Cg)(k:ByteArray)(n:Nat):idxsN p R k (n+1)=idxsN p R k n++if keyed p 2 (rowAt R n) k=true then[(n:Int)]else[]:=by
 unfold idxsN;rw[List.range_succ,List.filter_append,List.map_append]
 congr 1
 rw[List.filter_cons];split<;>rfl
theorem bestN_step (p:Pl)(R:List Cg)(k:ByteArray)(t:Int)(n:Nat):bestI R t (idxsN p R k (n+1))=if keyed p 2 (rowAt R n) k=true then bestStep R t (bestI R t (idxsN p R k n)) n else bestI R t (idxsN p R k n):=by
 rw[idxsN_step];unfold bestI;rw[List.foldl_append];split<;>rfl
theorem bestN_mem {p:Pl}{R:List Cg}{k:ByteArray}{t:Int}{n:Nat}{b:Int}(h:bestI R t (idxsN p R k n)=some b):0≤b∧b<n:=by
 have hu:(idxsN p R k n).Pairwise (· < ·):=by
  unfold idxsN;rw[List.pairwise_map];exact(List.pairwise_lt_range.filter _).imp fun h=>by omega
 have h1:=best_mem hu h;unfold idxsN at h1;obtain⟨i,hi,rfl⟩:=List.mem_map.1 h1;have:=List.mem_range.1 (List.mem_filter.1 hi).1;omega
def verI (p:Pl) (R:List Cg) (x:Cg):Int:=if(keyFor p 1 x.2).2=true then optI (bestI R x.1 (idxs p R (keyFor p 1 x.2).1))else-1
theorem with_version {p:Pl}{R:List Cg}{x:Cg}{k:Nat}(hk:p.kind=3):(withI p R x).contains (k:Int)=(verI p R x==(k:Int)):=by
 rw[Bool.eq_iff_iff,List.contains_iff_mem];unfold withI verI;rw[if_pos hk];by_cases h1:(keyFor p 1 x.2).2=true
 ·rw[if_pos h1,if_pos h1]
  cases h2:bestI R x.1 (idxs p R (keyFor p 1 x.2).1)with
  |none=>simp[optI]
  |some b=>
   show(k:Int)∈[b]↔(b==(k:Int))=true;rw[List.mem_singleton,beq_iff_eq];exact eq_comm
 ·rw[if_neg h1,if_neg h1]
  simp
theorem row_goodE {p:Pl}{side:Int}{r:List Val}(hz:checkP p=0)(h:rowE p side r=0)(hn: ∀x∈r,-9223372036854775808≤x.n∧x.n≤9223372036854775807):GoodR r:=by
 have hf:=rowE_fine hz h;exact⟨fun x hx=>⟨hf.good x hx,hn x hx⟩,by have:=hf.len;omega⟩
theorem nulls_good {n:Nat}(hn:n≤8):GoodR (nullsR n):=⟨fun x hx=>by
 rw[(List.mem_replicate.1 hx).2];exact⟨by unfold checkV nullV;simp[ByteArray.toList_eq],by unfold nullV;simp⟩,by unfold nullsR;rw[List.length_replicate];exact hn⟩
theorem app_good {a b:List Val}(ha:GoodR a)(hb:GoodR b)(h8:a.length+b.length≤8):GoodR (a++b):=⟨fun x hx=>(List.mem_append.1 hx).elim (ha.good x) (hb.good x),by rw[List.length_append];exact h8⟩
structure NumsB (L R:List Cg):Prop where
 l: ∀x∈L,∀y∈x.2,-9223372036854775808≤y.n∧y.n≤9223372036854775807
 r: ∀x∈R,∀y∈x.2,-9223372036854775808≤y.n∧y.n≤9223372036854775807
theorem joined_good {p:Pl}{L R:List Cg}(h:GoodB2 p L R)(hn:NumsB L R): ∀r∈joinL p L R,GoodR r:=by
 have hs:=counts_short (check_ok h.plan).2.2.1;have gl: ∀x∈L,GoodR x.2∧x.2.length≤4:=fun x hx=>⟨row_goodE h.plan (h.lr x hx) (hn.l x hx),(rowE_fine h.plan (h.lr x hx)).len⟩;have gr: ∀x∈R,GoodR x.2∧x.2.length≤4:=fun x hx=>⟨row_goodE h.plan (h.rr x hx) (hn.r x hx),(rowE_fine h.plan (h.rr x hx)).len⟩
 have ga: ∀i,i<R.length→GoodR (rowAt R i)∧(rowAt R i).length≤4:=fun i hi=>by
  have e:R.getD i zC=R[i]:=by simp[List.getD,hi]
  unfold rowAt;rw[e];exact gr _ (List.getElem_mem hi)
 have l4:=hs.l2;have r4:=hs.r2;intro r hr;unfold joinL at hr;rcases List.mem_append.1 hr with hr|hr
 ·obtain⟨x,hx,hr⟩:=List.mem_flatMap.1 hr
  obtain⟨g1,g2⟩:=gl x hx;unfold pairsOf at hr;split at hr
  ·split at hr
   ·rw[List.mem_singleton.1 hr]
    exact app_good g1 (nulls_good (by omega)) (by unfold nullsR;simp;omega)
   ·cases hr
  ·obtain⟨i,hi,rfl⟩:=List.mem_map.1 hr
   have h1:=with_mem hi;obtain⟨g3,g4⟩:=ga i.toNat (by omega);exact app_good g1 g3 (by omega)
 ·obtain⟨i,hi,hr⟩:=List.mem_flatMap.1 hr
  obtain⟨g3,g4⟩:=ga i (List.mem_range.1 hi);unfold lateOf at hr;split at hr
  ·rw[List.mem_singleton.1 hr]
   exact app_good (nulls_good (by omega)) g3 (by unfold nullsR;simp;omega)
  ·cases hr
theorem with_len (p:Pl)(R:List Cg)(x:Cg):(withI p R x).length≤R.length:=by
 rw[←withN_all];unfold withN;rw[List.length_map];exact Nat.le_trans (List.length_filter_le _ _) (by simp)
theorem pairs_len (p:Pl)(R:List Cg)(x:Cg):(pairsOf p R x).length≤R.length+1:=by
 unfold pairsOf;split
 ·split<;>simp
 ·rw[List.length_map]
  exact Nat.le_trans (with_len p R x) (by omega)
theorem flat_len_le {α β:Type}{f:α→List β}{n:Nat}(l:List α)(h: ∀x∈l,(f x).length≤n):(l.flatMap f).length≤l.length*n:=by
 induction l with
 |nil=>simp
 |cons x l ih=>
  rw[List.flatMap_cons,List.length_append,List.length_cons,Nat.add_mul];have:=h x (by simp);have:=ih fun y hy=>h y (by simp[hy]);omega
theorem joined_len {p:Pl}{L R:List Cg}(h:L.length+R.length≤120):(joinL p L R).length≤4000:=by
 unfold joinL;rw[List.length_append];have h1:=flat_len_le (f:=pairsOf p R) L fun x _=>pairs_len p R x;have h2:=flat_len_le (f:=lateOf p L R) (n:=1) (List.range R.length) fun i _=>by unfold lateOf;split<;>simp
 rw[List.length_range]at h2
 have h3:L.length*(R.length+1)≤60*60+121:=by
  generalize L.length=a at*;generalize R.length=b at*;have hb:b≤120-a:=by omega
  have:a*(b+1)≤a*(121-a):=Nat.mul_le_mul_left a (by omega);have ha:a≤120:=by omega
  have h4: ∀a:Nat,a≤120→a*(121-a)≤3721:=by decide+kernel
  exact Nat.le_trans this (h4 a ha)
 omega
end Go.Proofs.YtjhbeecmdgglgaaGreatDoor
namespace Go.Proofs.YtjhbeecmdgglgaaGreatDoor
open Go.RowKit Go.Maps
set_option maxHeartbeats 2000000 in
set_option maxRecDepth 10000 in
theorem keyFor_any (p:Pl)(side:Int)(v:Value)(r:List Val)(w:World)(h:p.ok w)(hr:Sl w v r.length (rowCells r))(hf:Fine r)(hrow:RowFine p side r):
 Calls Tryz.prog 94 #[.agg #[.int .i64 p.kind,.int .i64 p.mode,.int .i64 p.low,.int .i64 p.high,.int .i64 p.size,.int .i64 p.limit,p.vl,p.vr,p.vk,p.vq,.bool p.grouped,p.vg,p.va],.int .i64 side,v] w fun e w'=>e= .returned (.tuple #[.string (keyFor p side r).1,.bool (keyFor p side r).2])∧Below w.heap.size w w':=by
 have HE:Hid (keyFor p side r=if allB (fun x:Val=>x.k != 0) ((colsT p side).map (pickV r))then(str (keyRow ((colsT p side).map (pickV r))),true)else(⟨#[]⟩,false)):=Lib.hid rfl;have HPF:=Lib.hid (picked_fine hrow hf);have HCO:=Lib.hid hrow.cols;have HFW:=hrow.few;have HSD:=hrow.sides;have HS:=Lib.hid hrow.one;have HS':=Lib.hid hrow.two;have HL:=Lib.hid h.k;have HR:=Lib.hid h.q;have HV:=Lib.hid hr;clear h hf hrow;generalize keyFor p side r=R at HE⊢;generalize colsT p side=t at HE HS HS' HPF HCO HFW;obtain⟨kind,mode,low,high,size,limit,vl,vr,vk,vq,grouped,vg,va,left,right,lkeys,rkeys,group,aggs⟩:=p;simp only at HE HL HR HS HS' HPF HCO HFW⊢;obtain⟨A0,c0,rfl,n0,m0,-⟩:=id HL.out;obtain⟨A1,c1,rfl,n1,m1,-⟩:=id HR.out;obtain⟨A,c,rfl,n2,m2,-⟩:=hr;unfold maxLen at m0 m1 m2;have B1:=below_alloc w (.cells #[.int .i64 kind,.int .i64 mode,.int .i64 low,.int .i64 high,.int .i64 size,.int .i64 limit,vl,vr,.slice A0 lkeys.length c0,.slice A1 rkeys.length c1,.bool grouped,vg,va] 25);have HE2:=HE;obtain⟨s,hss⟩: ∃s,t.map (pickV r)=s:=⟨_,rfl⟩;rw[hss]at HPF HE2;have HSS:=Lib.hid hss;have hsl:s.length=t.length:=by rw[←hss,List.length_map]
 clear hss HE;rcases HSD with hs|hs
 ·have b1:(side==2)=false:=beqF (by omega)
  obtain rfl:=HS.out hs;have HTT:=HL;clear HS HS' hs;go_enter Tryz.func94,Tryz.ntmps94
  go_wp2_with fail
  go_loopw[9,10] (fun out i wr=> ∃(k:Nat) (u:Value),u=out∧k≤t.length∧i= .int .i64 k∧Hid (∀x∈s.take k,(x.k != 0)=true)∧wr.ownsRow w.heap.size 68 3 u k (rowCells (s.take k))∧Below w.heap.size w wr) (fun _ i _=>t.length-(intOf i).toNat)
  case atStart=>exact⟨0,_,rfl,by omega,rfl,by simp[Hid],⟨rfl,.inl ⟨rfl,rfl⟩⟩,B1⟩
  case round=>
   obtain⟨k,u,rfl,hk,rfl,H,hown,hbw⟩:=hrel;have hBw:=hbw;by_cases hlt:k<t.length
   ·obtain⟨bt,ot,hAt,-,hct⟩:=int_at HTT.out rfl hlt
    have d0:=hct _ hBw;have gt:t[k]?=some (t.getD k 0):=by simp[hlt]
    generalize t.getD k 0=y at d0 gt;have ry:=HCO.out y (List.mem_of_getElem? gt);obtain⟨m,rfl⟩: ∃m:Nat,y=m:=⟨y.toNat,by omega⟩;have hm:m<r.length:=by omega
    have hx:=pick_at hm;have gs:s[k]?=some (pickV r (m:Int)):=by rw[←HSS.out,List.getElem?_map,gt];rfl
    have hst:s.take (k+1)=s.take k++[pickV r (m:Int)]:=by rw[List.take_add_one,gs];rfl
    generalize pickV r (m:Int)=x at hx hst gs;obtain⟨g,off,rfl,-,hc⟩:=val_at HV.out rfl hx;obtain⟨d1,d2,d3⟩:=hc _ hBw;have HST:=Lib.hid hst;have HM:=Lib.hid (List.mem_of_getElem? gs);clear hx hc hct gt hst ry gs;subst hAt;have m0':(0:Int)≤(m:Int):=by omega
    have m1':(m:Int)<(r.length:Int):=by omega
    cases hz:(x.k==0)
    ·have hz2:=bne_of hz
     simp only[Bool.not_false]at hz2
     go_wp2_with (at_builtin;refine wpList_app rfl (.tmp 32) (.tmp 40) 43 rfl w.heap.size 68 3 32 Tryz.underlying43 valJ _ k _ rfl (hown.alloc _) _ 1 x.cells rfl (one_val _ x) rfl (val_cell x) ?_ ?_ ?_ ?_)
     ·unfold maxLen;omega
     ·omega
     ·have:=hbw.size;simp;omega
     ·intro v2 w3 hown3 hg3 hat3
      have hbw3:=below_grown (hbw.alloc hbw.size (.cells #[.int .i64 x.k,.int .i64 x.n,.string x.s] 68)) hg3 (own_ge hown)
      have O3:Hid (w3.ownsRow w.heap.size 68 3 v2 (k+1) (rowCells (s.take (k+1)))):=by
       rw[rowCells_step,←HST.out]at hown3;exact hown3
      have HZ:Hid (∀x∈s.take (k+1),(x.k != 0)=true):=by
       rw[HST.out];intro z hzz;rcases List.mem_append.1 hzz with hzz|hzz
       ·exact H.out z hzz
       ·simp only[List.mem_singleton]at hzz;rw[hzz];exact hz2
      clear hown3 hg3 hat3 hown;go_wp2;go_roundw
      case rel=>exact⟨k+1,_,rfl,by omega,by go_num,HZ.out,O3.out,hbw3⟩
      case measure=>simp[intOf];omega
    ·have hz2:=bne_of hz
     simp only[Bool.not_true]at hz2
     have EE:Hid (R=(⟨#[]⟩,false)):=Lib.hid (by
      rw[HE2.out];refine if_neg ?_;rw[Bool.not_eq_true,allB,List.all_eq_false];exact⟨x,HM.out,by simp[hz2]⟩)
     clear hown;go_wp2
     go_ret2
     exact⟨by rw[EE.out];rfl,hBw⟩
   ·obtain rfl:k=t.length:=by omega
    have HO:=Lib.hid (Sl.of_own hown);clear hown;rw[List.take_of_length_le (by omega)]at HO H
    have EE:Hid (R=(str (keyRow s),true)):=Lib.hid (by
     rw[HE2.out];refine if_pos ?_;rw[allB,List.all_eq_true];exact H.out)
    have HO2:Hid (Sl wr u s.length (rowCells s)):=Lib.hid (by rw[hsl];exact HO.out)
    go_wp2_with fail
    refine(rkey_any u s _ HO2.out HPF.out.1 HPF.out.2).mono ?_;rintro e w2 ⟨rfl,hb2⟩;go_wp2
    go_ret2
    exact⟨by rw[EE.out];rfl,below_trans hBw hb2⟩
 ·have b1:=beqT hs
  obtain rfl:=HS'.out hs;have HTT:=HR;clear HS HS' hs;go_enter Tryz.func94,Tryz.ntmps94
  go_wp2_with fail
  go_loopw[9,10] (fun out i wr=> ∃(k:Nat) (u:Value),u=out∧k≤t.length∧i= .int .i64 k∧Hid (∀x∈s.take k,(x.k != 0)=true)∧wr.ownsRow w.heap.size 68 3 u k (rowCells (s.take k))∧Below w.heap.size w wr) (fun _ i _=>t.length-(intOf i).toNat)
  case atStart=>exact⟨0,_,rfl,by omega,rfl,by simp[Hid],⟨rfl,.inl ⟨rfl,rfl⟩⟩,B1⟩
  case round=>
   obtain⟨k,u,rfl,hk,rfl,H,hown,hbw⟩:=hrel;have hBw:=hbw;by_cases hlt:k<t.length
   ·obtain⟨bt,ot,hAt,-,hct⟩:=int_at HTT.out rfl hlt
    have d0:=hct _ hBw;have gt:t[k]?=some (t.getD k 0):=by simp[hlt]
    generalize t.getD k 0=y at d0 gt;have ry:=HCO.out y (List.mem_of_getElem? gt);obtain⟨m,rfl⟩: ∃m:Nat,y=m:=⟨y.toNat,by omega⟩;have hm:m<r.length:=by omega
    have hx:=pick_at hm;have gs:s[k]?=some (pickV r (m:Int)):=by rw[←HSS.out,List.getElem?_map,gt];rfl
    have hst:s.take (k+1)=s.take k++[pickV r (m:Int)]:=by rw[List.take_add_one,gs];rfl
    generalize pickV r (m:Int)=x at hx hst gs;obtain⟨g,off,rfl,-,hc⟩:=val_at HV.out rfl hx;obtain⟨d1,d2,d3⟩:=hc _ hBw;have HST:=Lib.hid hst;have HM:=Lib.hid (List.mem_of_getElem? gs);clear hx hc hct gt hst ry gs;subst hAt;have m0':(0:Int)≤(m:Int):=by omega
    have m1':(m:Int)<(r.length:Int):=by omega
    cases hz:(x.k==0)
    ·have hz2:=bne_of hz
     simp only[Bool.not_false]at hz2
     go_wp2_with (at_builtin;refine wpList_app rfl (.tmp 32) (.tmp 40) 43 rfl w.heap.size 68 3 32 Tryz.underlying43 valJ _ k _ rfl (hown.alloc _) _ 1 x.cells rfl (one_val _ x) rfl (val_cell x) ?_ ?_ ?_ ?_)
     ·unfold maxLen;omega
     ·omega
     ·have:=hbw.size;simp;omega
     ·intro v2 w3 hown3 hg3 hat3
      have hbw3:=below_grown (hbw.alloc hbw.size (.cells #[.int .i64 x.k,.int .i64 x.n,.string x.s] 68)) hg3 (own_ge hown)
      have O3:Hid (w3.ownsRow w.heap.size 68 3 v2 (k+1) (rowCells (s.take (k+1)))):=by
       rw[rowCells_step,←HST.out]at hown3;exact hown3
      have HZ:Hid (∀x∈s.take (k+1),(x.k != 0)=true):=by
       rw[HST.out];intro z hzz;rcases List.mem_append.1 hzz with hzz|hzz
       ·exact H.out z hzz
       ·simp only[List.mem_singleton]at hzz;rw[hzz];exact hz2
      clear hown3 hg3 hat3 hown;go_wp2;go_roundw
      case rel=>exact⟨k+1,_,rfl,by omega,by go_num,HZ.out,O3.out,hbw3⟩
      case measure=>simp[intOf];omega
    ·have hz2:=bne_of hz
     simp only[Bool.not_true]at hz2
     have EE:Hid (R=(⟨#[]⟩,false)):=Lib.hid (by
      rw[HE2.out];refine if_neg ?_;rw[Bool.not_eq_true,allB,List.all_eq_false];exact⟨x,HM.out,by simp[hz2]⟩)
     clear hown;go_wp2
     go_ret2
     exact⟨by rw[EE.out];rfl,hBw⟩
   ·obtain rfl:k=t.length:=by omega
    have HO:=Lib.hid (Sl.of_own hown);clear hown;rw[List.take_of_length_le (by omega)]at HO H
    have EE:Hid (R=(str (keyRow s),true)):=Lib.hid (by
     rw[HE2.out];refine if_pos ?_;rw[allB,List.all_eq_true];exact H.out)
    have HO2:Hid (Sl wr u s.length (rowCells s)):=Lib.hid (by rw[hsl];exact HO.out)
    go_wp2_with fail
    refine(rkey_any u s _ HO2.out HPF.out.1 HPF.out.2).mono ?_;rintro e w2 ⟨rfl,hb2⟩;go_wp2
    go_ret2
    exact⟨by rw[EE.out];rfl,below_trans hBw hb2⟩
end Go.Proofs.YtjhbeecmdgglgaaGreatDoor
