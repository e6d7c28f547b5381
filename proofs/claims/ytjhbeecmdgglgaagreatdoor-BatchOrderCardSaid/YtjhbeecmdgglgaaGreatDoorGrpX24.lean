/-Groups: the reference's figure. (Printed by gengrp20.py.) -/
import Derived.Test.YtjhbeecmdgglgaaGreatDoorGrpX15
import Derived.Test.YtjhbeecmdgglgaaGreatDoorGrpX3
import Derived.Test.YtjhbeecmdgglgaaGreatDoorGrpX14
import Derived.Test.YtjhbeecmdgglgaaGreatDoorGrpX17
set_option linter.unusedSimpArgs false
set_option linter.unusedVariables false
namespace Go.Proofs.YtjhbeecmdgglgaaGreatDoor
open Go.RowKit
structure Ones (l:List Cnt) (m:Nat) (L:List (Val×Int)):Prop where
 len:l.length=L.length
 each: ∀(k:Nat) (c:Cnt),l[k]?=some c→ ∃x,c.r[m]?=some x∧L[k]?=some (x,c.n)
theorem cnt_cells {w:World}{l:List Cnt}{v:Value}(h:Sl w v l.length (cntCells l)){A:Option Addr}{n c:Nat}(hv:v= .slice A n c){k:Nat}{x:Cnt}(hk:l[k]?=some x):
 ∃b off,A=some ⟨b,off,none⟩∧b<w.heap.size∧ ∀w',Below w.heap.size w w'→w'.cell? ⟨b,off+k*2,none⟩=some x.v∧w'.cell? ⟨b,off+k*2+1,none⟩=some (.int .i64 x.n):=by
 obtain⟨A',c',hv',h1,h2,-,h3⟩:=h;rw[hv]at hv';injection hv' with e1 e2 e3;subst e1;have a0:=flat_at Cnt.cells_len l k 0 (by omega);have a1:=flat_at Cnt.cells_len l k 1 (by omega);rw[hk]at a0 a1;simp only[Option.bind_some,Nat.add_zero]at a0 a1;obtain⟨b,off,hA,hc⟩:=h3 (by intro h0;rw[show l.flatMap Cnt.cells=cntCells l from rfl,h0]at a0;simp[Cnt.cells]at a0);have c0:=hc _ _ a0;have c1:=hc _ _ a1;exact⟨b,off,hA,World.block_lt_of_cell? w _ c0,fun w' hb=>⟨cell_below hb c0,cell_below hb c1⟩⟩
theorem blk_farAll {g h:Nat}{t:TypeId}{cs:Array Value}(hne:g≠h): ∀ {l:List Value} {w:World} {i:Nat},Blk w g t cs→Blk (setAll w h i l) g t cs
 |[],_,_,k=>k
 |v::l,w,i,k=>blk_farAll hne (l:=l) (w:=w.setCell ⟨h,i,none⟩ v) (i:=i+1) (k.far (p:=⟨h,i,none⟩) hne v)
theorem foldl_at {α β:Type}{f:β→α→β}{l:List α}{k:Nat}{x:α}{s:β}(h:l[k]?=some x):(l.drop k).foldl f s=(l.drop (k+1)).foldl f (f s x):=by
 obtain⟨hk,rfl⟩:=List.getElem?_eq_some_iff.1 h;rw[List.drop_eq_getElem_cons hk];rfl
set_option maxHeartbeats 8000000 in
set_option maxRecDepth 10000 in
theorem rfigure_any (fn:Int)(m:Nat)(v:Value)(l:List Cnt)(L:List (Val×Int))(w:World)(hv:View w v l)(hL:Ones l m L):
 Calls Tryz.prog 69 #[.agg #[.int .i64 fn,.int .i64 (m:Int)],v] w fun e w'=>e= .returned (.agg #[.int .i64 (figF fn L).k,.int .i64 (figF fn L).n,.string (figF fn L).s])∧Below w.heap.size w w':=by
 have HV:=Lib.hid hv;have HL:=Lib.hid hL;obtain⟨R,hR⟩: ∃R,R=figF fn L:=⟨_,rfl⟩;rw[←hR];unfold figF at hR;obtain⟨Av,cv,rfl,nv,mv,-⟩:=id hv.sl;unfold maxLen at mv;have hB:=below_trans (below_alloc w (.cells #[.int .i64 fn,.int .i64 (m:Int)] 94)) (below_alloc _ (.cells #[.int .i64 0,.int .i64 0,.string ⟨#[]⟩] 68));have K0:=new_first w 94 #[.int .i64 fn,.int .i64 (m:Int)] (.cells #[.int .i64 0,.int .i64 0,.string ⟨#[]⟩] 68);have K1:=new_second w 68 #[.int .i64 0,.int .i64 0,.string ⟨#[]⟩] (.cells #[.int .i64 fn,.int .i64 (m:Int)] 94);have hsz:((w.alloc (.cells #[.int .i64 fn,.int .i64 (m:Int)] 94)).alloc (.cells #[.int .i64 0,.int .i64 0,.string ⟨#[]⟩] 68)).heap.size=w.heap.size+1+1:=by rw[World.size_alloc,World.size_alloc]
 have HLN:=Lib.hid hL.len;clear hv hL;by_cases hfn:fn=1
 ·have q1:=beqT hfn
  have EE:=Lib.hid (hR.trans (if_pos hfn));subst hfn;clear hR q1;have y0:=K0.cell 0 _ rfl;have HK1:=Lib.hid K1;go_enter Tryz.func69,Tryz.ntmps69
  go_wp2_with fail
  go_loopw[5,6] (fun nv iv wr=> ∃(k:Nat) (s:Int),k≤l.length∧iv= .int .i64 k∧nv= .int .i64 s∧Hid (L.foldl cntF 0=(L.drop k).foldl cntF s)∧Below ((w.alloc (.cells #[.int .i64 1,.int .i64 (m:Int)] 94)).alloc (.cells #[.int .i64 0,.int .i64 0,.string ⟨#[]⟩] 68)).heap.size ((w.alloc (.cells #[.int .i64 1,.int .i64 (m:Int)] 94)).alloc (.cells #[.int .i64 0,.int .i64 0,.string ⟨#[]⟩] 68)) wr) (fun _ iv _=>l.length-(intOf iv).toNat)
  case atStart=>exact⟨0,0,by omega,rfl,rfl,Lib.hid rfl,Below.refl _ _⟩
  case round=>
   rename World=>wr1
   obtain⟨k,s,hk,rfl,rfl,HS,hbr⟩:=hrel;have hBr:=below_trans hB hbr;by_cases hlt:k<l.length
   ·have hx:=List.getElem?_eq_getElem (l:=l) hlt
    generalize l[k]=x at hx;obtain⟨bb,ob,hAb,-,hcb⟩:=cnt_cells HV.out.sl rfl hx;obtain⟨y,hy,hLy⟩:=HL.out.each k x hx;obtain⟨d0,d1⟩:=hcb _ hBr;subst hAb;have HN:Hid (L.foldl cntF 0=(L.drop (k+1)).foldl cntF (cntF s (y,x.n))):=Lib.hid (by rw[HS.out,foldl_at hLy]);have hcf:cntF s (y,x.n)=wrap64 (s+x.n):=IntWalk.i64_left _;rw[hcf]at HN;have i0:(0:Int)≤(k:Int):=by omega
    have i1:(k:Int)<(l.length:Int):=by omega
    clear hx hcb hy hLy HS hcf;go_wp2;go_roundw
    case rel=>exact⟨k+1,_,by omega,by go_num,rfl,HN,hbr⟩
    case measure=>simp[intOf];omega
   ·obtain rfl:k=l.length:=by omega
    have hq1: ¬(l.length:Int)<(l.length:Int):=by omega
    have ES:Hid (R=⟨2,s,⟨#[]⟩⟩):=Lib.hid (by rw[EE.out,HS.out,HLN.out,List.drop_length];rfl);have HKE:=(HK1.out.below hbr);have z0:=HKE.cell 0 _ rfl;have f0:=HKE.free 0;have z1:=HKE.cell 1 _ rfl;have f1:=HKE.free 1;have z2:=HKE.cell 2 _ rfl;have f2:=HKE.free 2;clear HS;have KZ:=(HKE).setAll [.int .i64 2,.int .i64 s,.string ⟨#[]⟩] rfl;have hbz:=below_setAll (l:=[.int .i64 2,.int .i64 s,.string ⟨#[]⟩]) (i:=0) hBr (g:=w.heap.size+1) (by omega);simp only[setAll,Nat.reduceAdd]at KZ hbz;have v0:=KZ.cell 0 _ rfl;have v1:=KZ.cell 1 _ rfl;have v2:=KZ.cell 2 _ rfl;clear KZ;go_wp2;refine bodyPost_ret (v:= .agg #[.int .i64 2,.int .i64 s,.string ⟨#[]⟩]) (by simp[results,Tryz.results69,go_sem,v0,v1,v2]) rfl ?_;exact⟨by rw[ES.out],hbz⟩
 ·have q1:=beqF hfn
  have EE:=Lib.hid (hR.trans (if_neg hfn));have HFN:=Lib.hid hfn;have y0:=K0.cell 0 _ rfl;have HK0:=Lib.hid K0;have HK1:=Lib.hid K1;clear hR hfn;have HB3:=Lib.hid (below_alloc ((w.alloc (.cells #[.int .i64 fn,.int .i64 (m:Int)] 94)).alloc (.cells #[.int .i64 0,.int .i64 0,.string ⟨#[]⟩] 68)) (.cells #[.int .i64 0,.int .i64 0,.string ⟨#[]⟩] 68));have HK2:=Lib.hid (Blk.new ((w.alloc (.cells #[.int .i64 fn,.int .i64 (m:Int)] 94)).alloc (.cells #[.int .i64 0,.int .i64 0,.string ⟨#[]⟩] 68)) 68 #[.int .i64 0,.int .i64 0,.string ⟨#[]⟩]);rw[hsz]at HK2;go_enter Tryz.func69,Tryz.ntmps69
  go_wp2_with fail
  go_loopw[8] (fun iv wr=> ∃(k:Nat) (o:Val),k≤l.length∧iv= .int .i64 k∧Hid (R=(L.drop k).foldl (stepF fn) o)∧Hid (Blk wr w.heap.size 94 #[.int .i64 fn,.int .i64 (m:Int)])∧Hid (Blk wr (w.heap.size+1) 68 #[.int .i64 0,.int .i64 0,.string ⟨#[]⟩])∧Hid (Blk wr (w.heap.size+1+1) 68 #[.int .i64 o.k,.int .i64 o.n,.string o.s])∧Below w.heap.size w wr) (fun iv _=>l.length-(intOf iv).toNat)
  case atStart=>exact⟨0,nullG,by omega,rfl,EE,Lib.hid (HK0.out.below HB3.out),Lib.hid (HK1.out.below HB3.out),HK2,below_trans hB HB3.out⟩
  case round=>
   rename World=>wr1
   clear HK0 HK1 HK2 HB3 hB EE K0 K1 y0;obtain⟨k,o,hk,rfl,HS,HK0,HK1,HK2,hBr⟩:=hrel;have hsz1:=HK2.out.lt;by_cases hlt:k<l.length
   ·have hx:=List.getElem?_eq_getElem (l:=l) hlt
    generalize l[k]=x at hx;obtain⟨bb,ob,hAb,-,hcb⟩:=cnt_cells HV.out.sl rfl hx;obtain⟨y,hy,hLy⟩:=HL.out.each k x hx;have hrow:=HV.out.rows x (List.mem_of_getElem? hx);have HN:Hid (R=(L.drop (k+1)).foldl (stepF fn) (stepF fn o (y,x.n))):=Lib.hid (by rw[HS.out,foldl_at hLy]);obtain⟨xv,xr,xn⟩:=x;simp only at hy hcb hrow HN;have hml:=(List.getElem?_eq_some_iff.1 hy).1;obtain⟨Br,kr,er,-⟩:=id hrow;subst er;obtain⟨br,orr,hBr2,-,hcr⟩:=val_at hrow rfl hy;have i2:(0:Int)≤(m:Int):=by omega
    have i3:(m:Int)<(xr.length:Int):=by omega
    subst hBr2 hAb;obtain⟨yk,yn,ys⟩:=y;simp only at hcr;have HCR:=Lib.hid hcr;have HCB:=Lib.hid hcb;have HSS:=Lib.hid (fun w' (h:Below wr1.heap.size wr1 w')=>And.intro ((HK0.out.below h).cell 1 _ rfl) (And.intro (HCB.out w' (below_trans hBr h)).1 (And.intro (HCR.out w' (below_trans hBr h)).1 (And.intro (HCR.out w' (below_trans hBr h)).2.1 (HCR.out w' (below_trans hBr h)).2.2))));have hy0:Below wr1.heap.size wr1 wr1.drew:=(Below.refl _ wr1).drew;have i0:(0:Int)≤(k:Int):=by omega
    have i1:(k:Int)<(l.length:Int):=by omega
    clear hx hcb hcr hLy hrow HS hy hml
    go_upto_region 12 with fail
    refine tr (S:=(fun w'=>w'.cell? ⟨w.heap.size,1,none⟩=some (.int .i64 m)∧w'.cell? ⟨bb,ob+k*2,none⟩=some (.slice (some ⟨br,orr,none⟩) xr.length kr)∧w'.cell? ⟨br,orr+m*3,none⟩=some (.int .i64 yk)∧w'.cell? ⟨br,orr+m*3+1,none⟩=some (.int .i64 yn)∧w'.cell? ⟨br,orr+m*3+2,none⟩=some (.string ys))) (HSS.out _ hy0) (fun hHeld=> ?_);refine tk 0 ?_;refine tk 1 ?_;refine tk 2 ?_;refine tk 3 ?_;refine tk 4 ?_;refine tk 5 ?_;refine tk 6 ?_;refine tk 7 ?_;refine tk 8 ?_;refine tc 9 ?_;intro K hK;go_simp;refine hK.out _ _ (HSS.out _ (below_trans hy0 (below_alloc _ (.cells #[.int .i64 0,.int .i64 0,.string ⟨#[]⟩] 68)))) (fun hHeld9=> ?_);clear hK K;refine tc 10 ?_;intro K hK;go_simp;refine hK.out _ _ (HSS.out _ (below_trans hy0 (below_alloc _ (.cells #[.int .i64 yk,.int .i64 yn,.string ys] 68)))) (fun hHeld10=> ?_);clear hK K;refine td ?_;generalize hwx:(wr1.alloc (.cells #[.int .i64 yk,.int .i64 yn,.string ys] 68)).drew=w2;have hb2:Below wr1.heap.size wr1 w2:=by rw[←hwx];exact(below_alloc _ _).drew
    have HX:Hid (Blk w2 wr1.heap.size 68 #[.int .i64 yk,.int .i64 yn,.string ys]):=Lib.hid (by rw[←hwx];exact(Blk.new wr1 68 #[.int .i64 yk,.int .i64 yn,.string ys]).drew);clear hwx;have hBw:=below_trans hBr hb2;have HL0:=Lib.hid (HK0.out.below hb2);have HL1:=Lib.hid (HK1.out.below hb2);have HL2:=Lib.hid (HK2.out.below hb2);have x0:=HX.out.cell 0 _ rfl;by_cases hk0:yk=0
    ·have e0:=beqT hk0
     have HN2:Hid (R=(L.drop (k+1)).foldl (stepF fn) o):=Lib.hid (by rw[HN.out,show stepF fn o (⟨yk,yn,ys⟩,xn)=o from if_pos hk0]);clear hk0;go_wp2;go_roundw
     case rel=>exact⟨k+1,o,by omega,by go_num,HN2,HL0,HL1,HL2,hBw⟩
     case measure=>simp[intOf];omega
    ·have e0:=beqF hk0
     have a0:=HL0.out.cell 0 _ rfl;by_cases hf2:fn=2
     ·have e2:=beqT hf2
      have HN2:Hid (R=(L.drop (k+1)).foldl (stepF fn) ⟨2,wrapI (o.n+wrapI (yn*xn)),⟨#[]⟩⟩):=Lib.hid (by rw[HN.out,show stepF fn o (⟨yk,yn,ys⟩,xn)=⟨2,wrapI (o.n+wrapI (yn*xn)),⟨#[]⟩⟩from(if_neg hk0).trans (if_pos hf2)]);have HSX:=Lib.hid (fun w' (h:Below w2.heap.size w2 w')=>And.intro ((HX.out.below h).cell 1 _ rfl) (HCB.out w' (below_trans hBw h)).2);have KD:=HL2.out;have b1:=KD.drew.cell 1 _ rfl;have t0:=KD.cell 0 _ rfl;have t2:=KD.cell 2 _ rfl;have g0:=KD.free 0;have g1:=KD.free 1;have g2:=KD.free 2;have s0:=HL2.out.cell 0 _ rfl;have j0:=HL2.out.free 0;have s1:=HL2.out.cell 1 _ rfl;have j1:=HL2.out.free 1;have s2:=HL2.out.cell 2 _ rfl;have j2:=HL2.out.free 2;have KZ:=KD.setAll [.int .i64 2,.int .i64 (IntKind.i64.wrap (o.n+IntKind.i64.wrap (yn*xn))),.string ⟨#[]⟩] rfl;have M0:=blk_farAll (h:=w.heap.size+1+1) (l:=[.int .i64 2,.int .i64 (IntKind.i64.wrap (o.n+IntKind.i64.wrap (yn*xn))),.string ⟨#[]⟩]) (i:=0) (by omega) HL0.out;have M1:=blk_farAll (h:=w.heap.size+1+1) (l:=[.int .i64 2,.int .i64 (IntKind.i64.wrap (o.n+IntKind.i64.wrap (yn*xn))),.string ⟨#[]⟩]) (i:=0) (by omega) HL1.out;have MX:=blk_farAll (h:=w.heap.size+1+1) (l:=[.int .i64 2,.int .i64 (IntKind.i64.wrap (o.n+IntKind.i64.wrap (yn*xn))),.string ⟨#[]⟩]) (i:=0) (by omega) HX.out;have hbz:=below_setAll (l:=[.int .i64 2,.int .i64 (IntKind.i64.wrap (o.n+IntKind.i64.wrap (yn*xn))),.string ⟨#[]⟩]) (i:=0) hBw (g:=w.heap.size+1+1) (by omega);simp only[setAll,Nat.reduceAdd]at KZ M0 M1 MX hbz;have HMX:=Lib.hid MX;have HM0:=Lib.hid M0;have HM1:=Lib.hid M1;have HMZ:=Lib.hid KZ;have HBZ:=Lib.hid hbz;clear KZ M0 M1 MX hbz KD;have hy2:Below w2.heap.size w2 w2.drew:=(Below.refl _ w2).drew;clear hk0 hf2 HN
      go_upto_region 15 with fail
      refine tr (S:=(fun w'=>w'.cell? ⟨wr1.heap.size,1,none⟩=some (.int .i64 yn)∧w'.cell? ⟨bb,ob+k*2+1,none⟩=some (.int .i64 xn))) (HSX.out _ hy2) (fun hHeld=> ?_);refine tk 0 ?_;refine tk 2 ?_;refine tk 3 ?_;refine tk 4 ?_;refine tk 5 ?_;refine tk 6 ?_;refine tk 7 ?_;refine tk 8 ?_;refine tk 9 ?_;refine tc 1 ?_;intro K hK;go_simp;refine hK.out _ _ (HSX.out _ hy2) (fun hHeld1=> ?_);clear hK K;refine tk 10 ?_;refine tk 11 ?_;refine tc 12 ?_;intro K hK;go_simp;refine hK.out _ _ (And.intro (HMX.out.drew.cell 1 _ rfl) (HCB.out _ HBZ.out.drew).2) (fun hHeld12=> ?_);clear hK K;refine td ?_;unfold wrapI at HN2;simp only[IntWalk.i64_left]at HM0 HM1 HMZ HBZ HN2;go_wp2;go_roundw
      case rel=>exact⟨k+1,⟨2,_,⟨#[]⟩⟩,by omega,by go_num,HN2,Lib.hid HM0.out.drew,Lib.hid HM1.out.drew,Lib.hid HMZ.out.drew,HBZ.out.drew⟩
      case measure=>simp[intOf];omega
     ·have e2:=beqF hf2
      have b0:=HL2.out.cell 0 _ rfl;by_cases hok:o.k=0
      ·have e3:=beqT hok
       have HN2:Hid (R=(L.drop (k+1)).foldl (stepF fn) ⟨yk,yn,ys⟩):=Lib.hid (by rw[HN.out,show stepF fn o (⟨yk,yn,ys⟩,xn)=⟨yk,yn,ys⟩from((if_neg hk0).trans (if_neg hf2)).trans (if_pos (.inl hok))]);clear hk0 hf2 HN hok;have a0':=HX.out.cell 0 _ rfl;have a1':=HX.out.cell 1 _ rfl;have a2':=HX.out.cell 2 _ rfl;have t0:=HL2.out.cell 0 _ rfl;have t1:=HL2.out.cell 1 _ rfl;have t2:=HL2.out.cell 2 _ rfl;have g0:=HL2.out.free 0;have g1:=HL2.out.free 1;have g2:=HL2.out.free 2;have KZ:=HL2.out.setAll [.int .i64 yk,.int .i64 yn,.string ys] rfl;have M0:=blk_farAll (h:=w.heap.size+1+1) (l:=[.int .i64 yk,.int .i64 yn,.string ys]) (i:=0) (by omega) HL0.out;have M1:=blk_farAll (h:=w.heap.size+1+1) (l:=[.int .i64 yk,.int .i64 yn,.string ys]) (i:=0) (by omega) HL1.out;have hbz:=below_setAll (l:=[.int .i64 yk,.int .i64 yn,.string ys]) (i:=0) hBw (g:=w.heap.size+1+1) (by omega);simp only[setAll,Nat.reduceAdd]at KZ M0 M1 hbz;have NM0:=Lib.hid M0;have NM1:=Lib.hid M1;have NMZ:=Lib.hid KZ;clear KZ M0 M1;go_wp2;go_roundw
       case rel=>exact⟨k+1,⟨yk,yn,ys⟩,by omega,by go_num,HN2,NM0,NM1,NMZ,hbz⟩
       case measure=>simp[intOf];omega
      ·have e3:=beqF hok
       have x1:=HX.out.cell 1 _ rfl;have x2:=HX.out.cell 2 _ rfl;have b1:=HL2.out.cell 1 _ rfl;have b2:=HL2.out.cell 2 _ rfl;have HCP:=Lib.hid (fun W=>rcompare_val ⟨yk,yn,ys⟩ o W);obtain⟨CP,hCP⟩: ∃y,cmpV ⟨yk,yn,ys⟩ o=y:=⟨_,rfl⟩;rw[hCP]at HCP;simp only at HCP
       have HNC:Hid (R=(L.drop (k+1)).foldl (stepF fn) (if(fn=3∧CP<0)∨(fn=4∧0<CP)then⟨yk,yn,ys⟩else o)):=Lib.hid (by
        rw[HN.out,show stepF fn o (⟨yk,yn,ys⟩,xn)=if o.k=0∨(fn=3∧cmpV ⟨yk,yn,ys⟩ o<0)∨(fn=4∧0<cmpV ⟨yk,yn,ys⟩ o)then⟨yk,yn,ys⟩else o from(if_neg hk0).trans (if_neg hf2),hCP]
        congr 1
        simp only[hok,false_or])
       clear hk0 hf2 HN hok hCP;by_cases hf3:fn=3
       ·have e4:=beqT hf3
        by_cases hcp:CP<0
        ·have e5:decide (CP<0)=true:=decide_eq_true hcp
         have HN2:=Lib.hid (HNC.out.trans (by rw[if_pos (.inl ⟨hf3,hcp⟩)]));clear hf3 hcp HNC
         go_wp2_with fail
         refine(HCP.out _).mono ?_;rintro e w3 ⟨rfl,hb3⟩;have hBz:=below_trans hBw hb3;have HM0:=Lib.hid (HL0.out.below hb3);have HM1:=Lib.hid (HL1.out.below hb3);have HM2:=Lib.hid (HL2.out.below hb3);have HY:=Lib.hid (HX.out.below hb3);have a3:=HM0.out.cell 0 _ rfl;have a0':=HY.out.cell 0 _ rfl;have a1':=HY.out.cell 1 _ rfl;have a2':=HY.out.cell 2 _ rfl;have t0:=HM2.out.cell 0 _ rfl;have t1:=HM2.out.cell 1 _ rfl;have t2:=HM2.out.cell 2 _ rfl;have g0:=HM2.out.free 0;have g1:=HM2.out.free 1;have g2:=HM2.out.free 2;have KZ:=HM2.out.setAll [.int .i64 yk,.int .i64 yn,.string ys] rfl;have M0:=blk_farAll (h:=w.heap.size+1+1) (l:=[.int .i64 yk,.int .i64 yn,.string ys]) (i:=0) (by omega) HM0.out;have M1:=blk_farAll (h:=w.heap.size+1+1) (l:=[.int .i64 yk,.int .i64 yn,.string ys]) (i:=0) (by omega) HM1.out;have hbz:=below_setAll (l:=[.int .i64 yk,.int .i64 yn,.string ys]) (i:=0) hBz (g:=w.heap.size+1+1) (by omega);simp only[setAll,Nat.reduceAdd]at KZ M0 M1 hbz;have NM0:=Lib.hid M0;have NM1:=Lib.hid M1;have NMZ:=Lib.hid KZ;clear KZ M0 M1;go_wp2;go_roundw
         case rel=>exact⟨k+1,⟨yk,yn,ys⟩,by omega,by go_num,HN2,NM0,NM1,NMZ,hbz⟩
         case measure=>simp[intOf];omega
        ·have e5:decide (CP<0)=false:=decide_eq_false hcp
         have e6:(fn==4)=false:=beqF (by omega);have HN2:=Lib.hid (HNC.out.trans (by rw[if_neg (by omega)]));clear hf3 hcp HNC
         go_wp2_with fail
         refine(HCP.out _).mono ?_;rintro e w3 ⟨rfl,hb3⟩;have hBz:=below_trans hBw hb3;have HM0:=Lib.hid (HL0.out.below hb3);have HM1:=Lib.hid (HL1.out.below hb3);have HM2:=Lib.hid (HL2.out.below hb3);have HY:=Lib.hid (HX.out.below hb3);have a3:=HM0.out.cell 0 _ rfl;go_wp2;go_roundw
         case rel=>exact⟨k+1,o,by omega,by go_num,HN2,HM0,HM1,HM2,hBz⟩
         case measure=>simp[intOf];omega
       ·have e4:=beqF hf3
        by_cases hf4:fn=4
        ·have e6:=beqT hf4
         by_cases hcp:0<CP
         ·have e5:decide (0<CP)=true:=decide_eq_true hcp
          have HN2:=Lib.hid (HNC.out.trans (by rw[if_pos (.inr ⟨hf4,hcp⟩)]));clear hf3 hf4 hcp HNC
          go_wp2_with fail
          refine(HCP.out _).mono ?_;rintro e w3 ⟨rfl,hb3⟩;have hBz:=below_trans hBw hb3;have HM0:=Lib.hid (HL0.out.below hb3);have HM1:=Lib.hid (HL1.out.below hb3);have HM2:=Lib.hid (HL2.out.below hb3);have HY:=Lib.hid (HX.out.below hb3);have a3:=HM0.out.cell 0 _ rfl;have a0':=HY.out.cell 0 _ rfl;have a1':=HY.out.cell 1 _ rfl;have a2':=HY.out.cell 2 _ rfl;have t0:=HM2.out.cell 0 _ rfl;have t1:=HM2.out.cell 1 _ rfl;have t2:=HM2.out.cell 2 _ rfl;have g0:=HM2.out.free 0;have g1:=HM2.out.free 1;have g2:=HM2.out.free 2;have KZ:=HM2.out.setAll [.int .i64 yk,.int .i64 yn,.string ys] rfl;have M0:=blk_farAll (h:=w.heap.size+1+1) (l:=[.int .i64 yk,.int .i64 yn,.string ys]) (i:=0) (by omega) HM0.out;have M1:=blk_farAll (h:=w.heap.size+1+1) (l:=[.int .i64 yk,.int .i64 yn,.string ys]) (i:=0) (by omega) HM1.out;have hbz:=below_setAll (l:=[.int .i64 yk,.int .i64 yn,.string ys]) (i:=0) hBz (g:=w.heap.size+1+1) (by omega);simp only[setAll,Nat.reduceAdd]at KZ M0 M1 hbz;have NM0:=Lib.hid M0;have NM1:=Lib.hid M1;have NMZ:=Lib.hid KZ;clear KZ M0 M1;go_wp2;go_roundw
          case rel=>exact⟨k+1,⟨yk,yn,ys⟩,by omega,by go_num,HN2,NM0,NM1,NMZ,hbz⟩
          case measure=>simp[intOf];omega
         ·have e5:decide (0<CP)=false:=decide_eq_false hcp
          have HN2:=Lib.hid (HNC.out.trans (by rw[if_neg (by omega)]));clear hf3 hf4 hcp HNC
          go_wp2_with fail
          refine(HCP.out _).mono ?_;rintro e w3 ⟨rfl,hb3⟩;have hBz:=below_trans hBw hb3;have HM0:=Lib.hid (HL0.out.below hb3);have HM1:=Lib.hid (HL1.out.below hb3);have HM2:=Lib.hid (HL2.out.below hb3);have HY:=Lib.hid (HX.out.below hb3);have a3:=HM0.out.cell 0 _ rfl;go_wp2;go_roundw
          case rel=>exact⟨k+1,o,by omega,by go_num,HN2,HM0,HM1,HM2,hBz⟩
          case measure=>simp[intOf];omega
        ·have e6:=beqF hf4
         have HN2:=Lib.hid (HNC.out.trans (by rw[if_neg (by omega)]));clear hf3 hf4 HNC;go_wp2;go_roundw
         case rel=>exact⟨k+1,o,by omega,by go_num,HN2,HL0,HL1,HL2,hBw⟩
         case measure=>simp[intOf];omega
   ·obtain rfl:k=l.length:=by omega
    have hq1: ¬(l.length:Int)<(l.length:Int):=by omega
    have ES:Hid (R=o):=Lib.hid (by rw[HS.out,HLN.out,List.drop_length];rfl);have z0:=HK1.out.cell 0 _ rfl;have f0:=HK1.out.free 0;have z1:=HK1.out.cell 1 _ rfl;have f1:=HK1.out.free 1;have z2:=HK1.out.cell 2 _ rfl;have f2:=HK1.out.free 2;have u0:=HK2.out.cell 0 _ rfl;have u1:=HK2.out.cell 1 _ rfl;have u2:=HK2.out.cell 2 _ rfl;clear HS;have KZ:=(HK1.out).setAll [.int .i64 o.k,.int .i64 o.n,.string o.s] rfl;have hbz:=below_setAll (l:=[.int .i64 o.k,.int .i64 o.n,.string o.s]) (i:=0) hBr (g:=w.heap.size+1) (by omega);simp only[setAll,Nat.reduceAdd]at KZ hbz;have v0:=KZ.cell 0 _ rfl;have v1:=KZ.cell 1 _ rfl;have v2:=KZ.cell 2 _ rfl;clear KZ;go_wp2;refine bodyPost_ret (v:= .agg #[.int .i64 o.k,.int .i64 o.n,.string o.s]) (by simp[results,Tryz.results69,go_sem,v0,v1,v2]) rfl ?_;exact⟨by rw[ES.out],hbz⟩
end Go.Proofs.YtjhbeecmdgglgaaGreatDoor
