/-Groups: the reference's figure. (Printed by gengrp20.py.) Groups: the reference's RowOf. (Printed by gengrp21.py.) -/
import Derived.Test.YtblhidmkalleoaaGreatDoorGrpT13
import Derived.Test.YtblhidmkalleoaaGreatDoorGrpT10
import Derived.Test.YtblhidmkalleoaaGreatDoorGrpT3
import Derived.Test.YtblhidmkalleoaaGreatDoorGrpT5
import Derived.Test.YtblhidmkalleoaaGreatDoorGrpT16
import Derived.Test.YtblhidmkalleoaaGreatDoorGrpT18
import Derived.Test.YtblhidmkalleoaaGreatDoorGrpT7
set_option linter.unusedSimpArgs false
set_option linter.unusedVariables false
namespace Go.Proofs.YtblhidmkalleoaaGreatDoor
open Go.RowKit
structure Ones (l:List Cnt) (L:List (Val×Int)):Prop where
 len:l.length=L.length
 each: ∀(k:Nat) (c:Cnt),l[k]?=some c→ ∃x,c.r=[x]∧L[k]?=some (x,c.n)
theorem cnt_cells {w:World}{l:List Cnt}{v:Value}(h:Sl w v l.length (cntCells l)){A:Option Addr}{n c:Nat}(hv:v= .slice A n c){k:Nat}{x:Cnt}(hk:l[k]?=some x):
 ∃b off,A=some ⟨b,off,none⟩∧b<w.heap.size∧ ∀w',Below w.heap.size w w'→w'.cell? ⟨b,off+k*2,none⟩=some x.v∧w'.cell? ⟨b,off+k*2+1,none⟩=some (.int .i64 x.n):=by
 obtain⟨A',c',hv',h1,h2,-,h3⟩:=h;rw[hv]at hv';injection hv' with e1 e2 e3;subst e1;have a0:=flat_at Cnt.cells_len l k 0 (by omega);have a1:=flat_at Cnt.cells_len l k 1 (by omega);rw[hk]at a0 a1;simp only[Option.bind_some,Nat.add_zero]at a0 a1;obtain⟨b,off,hA,hc⟩:=h3 (by intro h0;rw[show l.flatMap Cnt.cells=cntCells l from rfl,h0]at a0;simp[Cnt.cells]at a0);have c0:=hc _ _ a0;have c1:=hc _ _ a1;exact⟨b,off,hA,World.block_lt_of_cell? w _ c0,fun w' hb=>⟨cell_below hb c0,cell_below hb c1⟩⟩
theorem blk_farAll {g h:Nat}{t:TypeId}{cs:Array Value}(hne:g≠h): ∀ {l:List Value} {w:World} {i:Nat},Blk w g t cs→Blk (setAll w h i l) g t cs
 |[],_,_,k=>k
 |v::l,w,i,k=>blk_farAll hne (l:=l) (w:=w.setCell ⟨h,i,none⟩ v) (i:=i+1) (k.far (p:=⟨h,i,none⟩) hne v)
theorem foldl_at {α β:Type}{f:β→α→β}{l:List α}{k:Nat}{x:α}{s:β}(h:l[k]?=some x):(l.drop k).foldl f s=(l.drop (k+1)).foldl f (f s x):=by
 obtain⟨hk,rfl⟩:=List.getElem?_eq_some_iff.1 h;rw[List.drop_eq_getElem_cons hk];rfl
set_option maxHeartbeats 8000000 in
set_option maxRecDepth 10000 in
theorem rfigure_any (fn:Int)(v:Value)(l:List Cnt)(L:List (Val×Int))(w:World)(hv:View w v l)(hL:Ones l L):
 Calls Tryz.prog 139 #[.agg #[.int .i64 fn,.int .i64 0],v] w fun e w'=>e= .returned (.agg #[.int .i64 (figF fn L).k,.int .i64 (figF fn L).n,.string (figF fn L).s])∧Below w.heap.size w w':=by
 have HV:=Lib.hid hv;have HL:=Lib.hid hL;obtain⟨R,hR⟩: ∃R,R=figF fn L:=⟨_,rfl⟩;rw[←hR];unfold figF at hR;obtain⟨Av,cv,rfl,nv,mv,-⟩:=id hv.sl;unfold maxLen at mv;have hB:=below_trans (below_alloc w (.cells #[.int .i64 fn,.int .i64 0] 106)) (below_alloc _ (.cells #[.int .i64 0,.int .i64 0,.string ⟨#[]⟩] 112));have K0:=new_first w 106 #[.int .i64 fn,.int .i64 0] (.cells #[.int .i64 0,.int .i64 0,.string ⟨#[]⟩] 112);have K1:=new_second w 112 #[.int .i64 0,.int .i64 0,.string ⟨#[]⟩] (.cells #[.int .i64 fn,.int .i64 0] 106);have hsz:((w.alloc (.cells #[.int .i64 fn,.int .i64 0] 106)).alloc (.cells #[.int .i64 0,.int .i64 0,.string ⟨#[]⟩] 112)).heap.size=w.heap.size+1+1:=by rw[World.size_alloc,World.size_alloc]
 have HLN:=Lib.hid hL.len;clear hv hL;by_cases hfn:fn=1
 ·have q1:=beqT hfn
  have EE:=Lib.hid (hR.trans (if_pos hfn));subst hfn;clear hR q1;have y0:=K0.cell 0 _ rfl;have HK1:=Lib.hid K1;go_enter Tryz.func139,Tryz.ntmps139
  go_wp2_with fail
  go_loopw[5,6] (fun nv iv wr=> ∃(k:Nat) (s:Int),k≤l.length∧iv= .int .i64 k∧nv= .int .i64 s∧Hid (L.foldl cntF 0=(L.drop k).foldl cntF s)∧Below ((w.alloc (.cells #[.int .i64 1,.int .i64 0] 106)).alloc (.cells #[.int .i64 0,.int .i64 0,.string ⟨#[]⟩] 112)).heap.size ((w.alloc (.cells #[.int .i64 1,.int .i64 0] 106)).alloc (.cells #[.int .i64 0,.int .i64 0,.string ⟨#[]⟩] 112)) wr) (fun _ iv _=>l.length-(intOf iv).toNat)
  case atStart=>exact⟨0,0,by omega,rfl,rfl,Lib.hid rfl,Below.refl _ _⟩
  case round=>
   rename World=>wr1
   obtain⟨k,s,hk,rfl,rfl,HS,hbr⟩:=hrel;have hBr:=below_trans hB hbr;by_cases hlt:k<l.length
   ·have hx:=List.getElem?_eq_getElem (l:=l) hlt
    generalize l[k]=x at hx;obtain⟨bb,ob,hAb,-,hcb⟩:=cnt_cells HV.out.sl rfl hx;obtain⟨y,hy,hLy⟩:=HL.out.each k x hx;obtain⟨d0,d1⟩:=hcb _ hBr;subst hAb;have HN:Hid (L.foldl cntF 0=(L.drop (k+1)).foldl cntF (cntF s (y,x.n))):=Lib.hid (by rw[HS.out,foldl_at hLy]);have hcf:cntF s (y,x.n)=wrap64 (s+x.n):=IntWalk.i64_left _;rw[hcf]at HN;have i0:(0:Int)≤(k:Int):=by omega
    have i1:(k:Int)<(l.length:Int):=by omega
    clear hx hcb hy hLy HS hcf;go_wp2;go_roundw
    case rel=>exact⟨k+1,_,by omega,by go_num,rfl,HN,hbr⟩
    case measure=>simp[intOf];omega
   ·obtain rfl:k=l.length:=by omega
    have hq1: ¬(l.length:Int)<(l.length:Int):=by omega
    have ES:Hid (R=⟨2,s,⟨#[]⟩⟩):=Lib.hid (by rw[EE.out,HS.out,HLN.out,List.drop_length];rfl);have HKE:=(HK1.out.below hbr);have z0:=HKE.cell 0 _ rfl;have f0:=HKE.free 0;have z1:=HKE.cell 1 _ rfl;have f1:=HKE.free 1;have z2:=HKE.cell 2 _ rfl;have f2:=HKE.free 2;clear HS;have KZ:=(HKE).setAll [.int .i64 2,.int .i64 s,.string ⟨#[]⟩] rfl;have hbz:=below_setAll (l:=[.int .i64 2,.int .i64 s,.string ⟨#[]⟩]) (i:=0) hBr (g:=w.heap.size+1) (by omega);simp only[setAll,Nat.reduceAdd]at KZ hbz;have v0:=KZ.cell 0 _ rfl;have v1:=KZ.cell 1 _ rfl;have v2:=KZ.cell 2 _ rfl;clear KZ;go_wp2;refine bodyPost_ret (v:= .agg #[.int .i64 2,.int .i64 s,.string ⟨#[]⟩]) (by simp[results,Tryz.results139,go_sem,v0,v1,v2]) rfl ?_;exact⟨by rw[ES.out],hbz⟩
 ·have q1:=beqF hfn
  have EE:=Lib.hid (hR.trans (if_neg hfn));have HFN:=Lib.hid hfn;have y0:=K0.cell 0 _ rfl;have HK0:=Lib.hid K0;have HK1:=Lib.hid K1;clear hR hfn;have HB3:=Lib.hid (below_alloc ((w.alloc (.cells #[.int .i64 fn,.int .i64 0] 106)).alloc (.cells #[.int .i64 0,.int .i64 0,.string ⟨#[]⟩] 112)) (.cells #[.int .i64 0,.int .i64 0,.string ⟨#[]⟩] 112));have HK2:=Lib.hid (Blk.new ((w.alloc (.cells #[.int .i64 fn,.int .i64 0] 106)).alloc (.cells #[.int .i64 0,.int .i64 0,.string ⟨#[]⟩] 112)) 112 #[.int .i64 0,.int .i64 0,.string ⟨#[]⟩]);rw[hsz]at HK2;go_enter Tryz.func139,Tryz.ntmps139
  go_wp2_with fail
  go_loopw[8] (fun iv wr=> ∃(k:Nat) (o:Val),k≤l.length∧iv= .int .i64 k∧Hid (R=(L.drop k).foldl (stepF fn) o)∧Hid (Blk wr w.heap.size 106 #[.int .i64 fn,.int .i64 0])∧Hid (Blk wr (w.heap.size+1) 112 #[.int .i64 0,.int .i64 0,.string ⟨#[]⟩])∧Hid (Blk wr (w.heap.size+1+1) 112 #[.int .i64 o.k,.int .i64 o.n,.string o.s])∧Below w.heap.size w wr) (fun iv _=>l.length-(intOf iv).toNat)
  case atStart=>exact⟨0,nullG,by omega,rfl,EE,Lib.hid (HK0.out.below HB3.out),Lib.hid (HK1.out.below HB3.out),HK2,below_trans hB HB3.out⟩
  case round=>
   rename World=>wr1
   clear HK0 HK1 HK2 HB3 hB EE K0 K1 y0;obtain⟨k,o,hk,rfl,HS,HK0,HK1,HK2,hBr⟩:=hrel;have hsz1:=HK2.out.lt;by_cases hlt:k<l.length
   ·have hx:=List.getElem?_eq_getElem (l:=l) hlt
    generalize l[k]=x at hx;obtain⟨bb,ob,hAb,-,hcb⟩:=cnt_cells HV.out.sl rfl hx;obtain⟨y,hy,hLy⟩:=HL.out.each k x hx;have hrow:=HV.out.rows x (List.mem_of_getElem? hx);have HN:Hid (R=(L.drop (k+1)).foldl (stepF fn) (stepF fn o (y,x.n))):=Lib.hid (by rw[HS.out,foldl_at hLy]);obtain⟨xv,xr,xn⟩:=x;simp only at hy hcb hrow HN;subst hy;obtain⟨Br,kr,er,-⟩:=id hrow;subst er;obtain⟨br,orr,hBr2,-,hcr⟩:=val_at hrow rfl (show[y][0]?=some y from rfl);subst hBr2 hAb;obtain⟨yk,yn,ys⟩:=y;simp only[Nat.zero_mul,Nat.add_zero]at hcr;have HCR:=Lib.hid hcr;have HCB:=Lib.hid hcb;have HSS:=Lib.hid (fun w' (h:Below wr1.heap.size wr1 w')=>And.intro ((HK0.out.below h).cell 1 _ rfl) (And.intro (HCB.out w' (below_trans hBr h)).1 (And.intro (HCR.out w' (below_trans hBr h)).1 (And.intro (HCR.out w' (below_trans hBr h)).2.1 (HCR.out w' (below_trans hBr h)).2.2))));have hy0:Below wr1.heap.size wr1 wr1.drew:=(Below.refl _ wr1).drew;have i0:(0:Int)≤(k:Int):=by omega
    have i1:(k:Int)<(l.length:Int):=by omega
    clear hx hcb hcr hLy hrow HS
    go_upto_region 12 with fail
    refine tr (S:=(fun w'=>w'.cell? ⟨w.heap.size,1,none⟩=some (.int .i64 0)∧w'.cell? ⟨bb,ob+k*2,none⟩=some (.slice (some ⟨br,orr,none⟩) [(⟨yk,yn,ys⟩:Val)].length kr)∧w'.cell? ⟨br,orr,none⟩=some (.int .i64 yk)∧w'.cell? ⟨br,orr+1,none⟩=some (.int .i64 yn)∧w'.cell? ⟨br,orr+2,none⟩=some (.string ys))) (HSS.out _ hy0) (fun hHeld=> ?_);refine tk 0 ?_;refine tk 1 ?_;refine tk 2 ?_;refine tk 3 ?_;refine tk 4 ?_;refine tk 5 ?_;refine tk 6 ?_;refine tk 7 ?_;refine tk 8 ?_;refine tc 9 ?_;intro K hK;go_simp;refine hK.out _ _ (HSS.out _ (below_trans hy0 (below_alloc _ (.cells #[.int .i64 0,.int .i64 0,.string ⟨#[]⟩] 112)))) (fun hHeld9=> ?_);clear hK K;refine tc 10 ?_;intro K hK;go_simp;refine hK.out _ _ (HSS.out _ (below_trans hy0 (below_alloc _ (.cells #[.int .i64 yk,.int .i64 yn,.string ys] 112)))) (fun hHeld10=> ?_);clear hK K;refine td ?_;generalize hwx:(wr1.alloc (.cells #[.int .i64 yk,.int .i64 yn,.string ys] 112)).drew=w2;have hb2:Below wr1.heap.size wr1 w2:=by rw[←hwx];exact(below_alloc _ _).drew
    have HX:Hid (Blk w2 wr1.heap.size 112 #[.int .i64 yk,.int .i64 yn,.string ys]):=Lib.hid (by rw[←hwx];exact(Blk.new wr1 112 #[.int .i64 yk,.int .i64 yn,.string ys]).drew);clear hwx;have hBw:=below_trans hBr hb2;have HL0:=Lib.hid (HK0.out.below hb2);have HL1:=Lib.hid (HK1.out.below hb2);have HL2:=Lib.hid (HK2.out.below hb2);have x0:=HX.out.cell 0 _ rfl;by_cases hk0:yk=0
    ·have e0:=beqT hk0
     have HN2:Hid (R=(L.drop (k+1)).foldl (stepF fn) o):=Lib.hid (by rw[HN.out,show stepF fn o (⟨yk,yn,ys⟩,xn)=o from if_pos hk0]);clear hk0;go_wp2;go_roundw
     case rel=>exact⟨k+1,o,by omega,by go_num,HN2,HL0,HL1,HL2,hBw⟩
     case measure=>simp[intOf];omega
    ·have e0:=beqF hk0
     have a0:=HL0.out.cell 0 _ rfl;by_cases hf2:fn=2
     ·have e2:=beqT hf2
      have HN2:Hid (R=(L.drop (k+1)).foldl (stepF fn) ⟨2,wrapI (o.n+wrapI (yn*xn)),⟨#[]⟩⟩):=Lib.hid (by rw[HN.out,show stepF fn o (⟨yk,yn,ys⟩,xn)=⟨2,wrapI (o.n+wrapI (yn*xn)),⟨#[]⟩⟩from(if_neg hk0).trans (if_pos hf2)]);have HSX:=Lib.hid (fun w' (h:Below w2.heap.size w2 w')=>And.intro ((HX.out.below h).cell 1 _ rfl) (HCB.out w' (below_trans hBw h)).2);have KD:=HL2.out;have b1:=KD.drew.cell 1 _ rfl;have t0:=KD.cell 0 _ rfl;have t2:=KD.cell 2 _ rfl;have g0:=KD.free 0;have g1:=KD.free 1;have g2:=KD.free 2;have s0:=HL2.out.cell 0 _ rfl;have j0:=HL2.out.free 0;have s1:=HL2.out.cell 1 _ rfl;have j1:=HL2.out.free 1;have s2:=HL2.out.cell 2 _ rfl;have j2:=HL2.out.free 2;have KZ:=KD.setAll [.int .i64 2,.int .i64 (IntKind.i64.wrap (o.n+IntKind.i64.wrap (yn*xn))),.string ⟨#[]⟩] rfl;have M0:=blk_farAll (h:=w.heap.size+1+1) (l:=[.int .i64 2,.int .i64 (IntKind.i64.wrap (o.n+IntKind.i64.wrap (yn*xn))),.string ⟨#[]⟩]) (i:=0) (by omega) HL0.out;have M1:=blk_farAll (h:=w.heap.size+1+1) (l:=[.int .i64 2,.int .i64 (IntKind.i64.wrap (o.n+IntKind.i64.wrap (yn*xn))),.string ⟨#[]⟩]) (i:=0) (by omega) HL1.out;have MX:=blk_farAll (h:=w.heap.size+1+1) (l:=[.int .i64 2,.int .i64 (IntKind.i64.wrap (o.n+IntKind.i64.wrap (yn*xn))),.string ⟨#[]⟩]) (i:=0) (by omega) HX.out;have hbz:=below_setAll (l:=[.int .i64 2,.int .i64 (IntKind.i64.wrap (o.n+IntKind.i64.wrap (yn*xn))),.string ⟨#[]⟩]) (i:=0) hBw (g:=w.heap.size+1+1) (by omega);simp only[setAll,Nat.reduceAdd]at KZ M0 M1 MX hbz;have HMX:=Lib.hid MX;have HM0:=Lib.hid M0;have HM1:=Lib.hid M1;have HMZ:=Lib.hid KZ;have HBZ:=Lib.hid hbz;clear KZ M0 M1 MX hbz KD;have hy2:Below w2.heap.size w2 w2.drew:=(Below.refl _ w2).drew;clear hk0 hf2 HN
      go_upto_region 15 with fail
      refine tr (S:=(fun w'=>w'.cell? ⟨wr1.heap.size,1,none⟩=some (.int .i64 yn)∧w'.cell? ⟨bb,ob+k*2+1,none⟩=some (.int .i64 xn))) (HSX.out _ hy2) (fun hHeld=> ?_);refine tk 0 ?_;refine tk 2 ?_;refine tk 3 ?_;refine tk 4 ?_;refine tk 5 ?_;refine tk 6 ?_;refine tk 7 ?_;refine tk 8 ?_;refine tk 9 ?_;refine tc 1 ?_;intro K hK;go_simp;refine hK.out _ _ (HSX.out _ hy2) (fun hHeld1=> ?_);clear hK K;refine tk 10 ?_;refine tk 11 ?_;refine tc 12 ?_;intro K hK;go_simp;refine hK.out _ _ (And.intro (HMX.out.drew.cell 1 _ rfl) (HCB.out _ HBZ.out.drew).2) (fun hHeld12=> ?_);clear hK K;refine td ?_;unfold wrapI at HN2;simp only[IntWalk.i64_left]at HM0 HM1 HMZ HBZ HN2;go_wp2;go_roundw
      case rel=>exact⟨k+1,⟨2,_,⟨#[]⟩⟩,by omega,by go_num,HN2,Lib.hid HM0.out.drew,Lib.hid HM1.out.drew,Lib.hid HMZ.out.drew,HBZ.out.drew⟩
      case measure=>simp[intOf];omega
     ·have e2:=beqF hf2
      have b0:=HL2.out.cell 0 _ rfl;by_cases hok:o.k=0
      ·have e3:=beqT hok
       have HN2:Hid (R=(L.drop (k+1)).foldl (stepF fn) ⟨yk,yn,ys⟩):=Lib.hid (by rw[HN.out,show stepF fn o (⟨yk,yn,ys⟩,xn)=⟨yk,yn,ys⟩from((if_neg hk0).trans (if_neg hf2)).trans (if_pos (.inl hok))]);clear hk0 hf2 HN hok;have a0':=HX.out.cell 0 _ rfl;have a1':=HX.out.cell 1 _ rfl;have a2':=HX.out.cell 2 _ rfl;have t0:=HL2.out.cell 0 _ rfl;have t1:=HL2.out.cell 1 _ rfl;have t2:=HL2.out.cell 2 _ rfl;have g0:=HL2.out.free 0;have g1:=HL2.out.free 1;have g2:=HL2.out.free 2;have KZ:=HL2.out.setAll [.int .i64 yk,.int .i64 yn,.string ys] rfl;have M0:=blk_farAll (h:=w.heap.size+1+1) (l:=[.int .i64 yk,.int .i64 yn,.string ys]) (i:=0) (by omega) HL0.out;have M1:=blk_farAll (h:=w.heap.size+1+1) (l:=[.int .i64 yk,.int .i64 yn,.string ys]) (i:=0) (by omega) HL1.out;have hbz:=below_setAll (l:=[.int .i64 yk,.int .i64 yn,.string ys]) (i:=0) hBw (g:=w.heap.size+1+1) (by omega);simp only[setAll,Nat.reduceAdd]at KZ M0 M1 hbz;have NM0:=Lib.hid M0;have NM1:=Lib.hid M1;have NMZ:=Lib.hid KZ;clear KZ M0 M1;go_wp2;go_roundw
       case rel=>exact⟨k+1,⟨yk,yn,ys⟩,by omega,by go_num,HN2,NM0,NM1,NMZ,hbz⟩
       case measure=>simp[intOf];omega
      ·have e3:=beqF hok
       have x1:=HX.out.cell 1 _ rfl;have x2:=HX.out.cell 2 _ rfl;have b1:=HL2.out.cell 1 _ rfl;have b2:=HL2.out.cell 2 _ rfl;have HCP:=Lib.hid (fun W=>rcompare_val ⟨yk,yn,ys⟩ o W);obtain⟨CP,hCP⟩: ∃y,cmpV ⟨yk,yn,ys⟩ o=y:=⟨_,rfl⟩;rw[hCP]at HCP;simp only at HCP
       have HNC:Hid (R=(L.drop (k+1)).foldl (stepF fn) (if(fn=3∧CP<0)∨(fn=4∧0<CP)then⟨yk,yn,ys⟩else o)):=Lib.hid (by
        rw[HN.out,show stepF fn o (⟨yk,yn,ys⟩,xn)=if o.k=0∨(fn=3∧cmpV ⟨yk,yn,ys⟩ o<0)∨(fn=4∧0<cmpV ⟨yk,yn,ys⟩ o)then⟨yk,yn,ys⟩else o from(if_neg hk0).trans (if_neg hf2),hCP]
        congr 1
        simp only[hok,false_or])
       clear hk0 hf2 HN hok hCP;by_cases hf3:fn=3
       ·have e4:=beqT hf3
        by_cases hcp:CP<0
        ·have e5:decide (CP<0)=true:=decide_eq_true hcp
         have HN2:=Lib.hid (HNC.out.trans (by rw[if_pos (.inl ⟨hf3,hcp⟩)]));clear hf3 hcp HNC
         go_wp2_with fail
         refine(HCP.out _).mono ?_;rintro e w3 ⟨rfl,hb3⟩;have hBz:=below_trans hBw hb3;have HM0:=Lib.hid (HL0.out.below hb3);have HM1:=Lib.hid (HL1.out.below hb3);have HM2:=Lib.hid (HL2.out.below hb3);have HY:=Lib.hid (HX.out.below hb3);have a3:=HM0.out.cell 0 _ rfl;have a0':=HY.out.cell 0 _ rfl;have a1':=HY.out.cell 1 _ rfl;have a2':=HY.out.cell 2 _ rfl;have t0:=HM2.out.cell 0 _ rfl;have t1:=HM2.out.cell 1 _ rfl;have t2:=HM2.out.cell 2 _ rfl;have g0:=HM2.out.free 0;have g1:=HM2.out.free 1;have g2:=HM2.out.free 2;have KZ:=HM2.out.setAll [.int .i64 yk,.int .i64 yn,.string ys] rfl;have M0:=blk_farAll (h:=w.heap.size+1+1) (l:=[.int .i64 yk,.int .i64 yn,.string ys]) (i:=0) (by omega) HM0.out;have M1:=blk_farAll (h:=w.heap.size+1+1) (l:=[.int .i64 yk,.int .i64 yn,.string ys]) (i:=0) (by omega) HM1.out;have hbz:=below_setAll (l:=[.int .i64 yk,.int .i64 yn,.string ys]) (i:=0) hBz (g:=w.heap.size+1+1) (by omega);simp only[setAll,Nat.reduceAdd]at KZ M0 M1 hbz;have NM0:=Lib.hid M0;have NM1:=Lib.hid M1;have NMZ:=Lib.hid KZ;clear KZ M0 M1;go_wp2;go_roundw
         case rel=>exact⟨k+1,⟨yk,yn,ys⟩,by omega,by go_num,HN2,NM0,NM1,NMZ,hbz⟩
         case measure=>simp[intOf];omega
        ·have e5:decide (CP<0)=false:=decide_eq_false hcp
         have e6:(fn==4)=false:=beqF (by omega);have HN2:=Lib.hid (HNC.out.trans (by rw[if_neg (by omega)]));clear hf3 hcp HNC
         go_wp2_with fail
         refine(HCP.out _).mono ?_;rintro e w3 ⟨rfl,hb3⟩;have hBz:=below_trans hBw hb3;have HM0:=Lib.hid (HL0.out.below hb3);have HM1:=Lib.hid (HL1.out.below hb3);have HM2:=Lib.hid (HL2.out.below hb3);have HY:=Lib.hid (HX.out.below hb3);have a3:=HM0.out.cell 0 _ rfl;go_wp2;go_roundw
         case rel=>exact⟨k+1,o,by omega,by go_num,HN2,HM0,HM1,HM2,hBz⟩
         case measure=>simp[intOf];omega
       ·have e4:=beqF hf3
        by_cases hf4:fn=4
        ·have e6:=beqT hf4
         by_cases hcp:0<CP
         ·have e5:decide (0<CP)=true:=decide_eq_true hcp
          have HN2:=Lib.hid (HNC.out.trans (by rw[if_pos (.inr ⟨hf4,hcp⟩)]));clear hf3 hf4 hcp HNC
          go_wp2_with fail
          refine(HCP.out _).mono ?_;rintro e w3 ⟨rfl,hb3⟩;have hBz:=below_trans hBw hb3;have HM0:=Lib.hid (HL0.out.below hb3);have HM1:=Lib.hid (HL1.out.below hb3);have HM2:=Lib.hid (HL2.out.below hb3);have HY:=Lib.hid (HX.out.below hb3);have a3:=HM0.out.cell 0 _ rfl;have a0':=HY.out.cell 0 _ rfl;have a1':=HY.out.cell 1 _ rfl;have a2':=HY.out.cell 2 _ rfl;have t0:=HM2.out.cell 0 _ rfl;have t1:=HM2.out.cell 1 _ rfl;have t2:=HM2.out.cell 2 _ rfl;have g0:=HM2.out.free 0;have g1:=HM2.out.free 1;have g2:=HM2.out.free 2;have KZ:=HM2.out.setAll [.int .i64 yk,.int .i64 yn,.string ys] rfl;have M0:=blk_farAll (h:=w.heap.size+1+1) (l:=[.int .i64 yk,.int .i64 yn,.string ys]) (i:=0) (by omega) HM0.out;have M1:=blk_farAll (h:=w.heap.size+1+1) (l:=[.int .i64 yk,.int .i64 yn,.string ys]) (i:=0) (by omega) HM1.out;have hbz:=below_setAll (l:=[.int .i64 yk,.int .i64 yn,.string ys]) (i:=0) hBz (g:=w.heap.size+1+1) (by omega);simp only[setAll,Nat.reduceAdd]at KZ M0 M1 hbz;have NM0:=Lib.hid M0;have NM1:=Lib.hid M1;have NMZ:=Lib.hid KZ;clear KZ M0 M1;go_wp2;go_roundw
          case rel=>exact⟨k+1,⟨yk,yn,ys⟩,by omega,by go_num,HN2,NM0,NM1,NMZ,hbz⟩
          case measure=>simp[intOf];omega
         ·have e5:decide (0<CP)=false:=decide_eq_false hcp
          have HN2:=Lib.hid (HNC.out.trans (by rw[if_neg (by omega)]));clear hf3 hf4 hcp HNC
          go_wp2_with fail
          refine(HCP.out _).mono ?_;rintro e w3 ⟨rfl,hb3⟩;have hBz:=below_trans hBw hb3;have HM0:=Lib.hid (HL0.out.below hb3);have HM1:=Lib.hid (HL1.out.below hb3);have HM2:=Lib.hid (HL2.out.below hb3);have HY:=Lib.hid (HX.out.below hb3);have a3:=HM0.out.cell 0 _ rfl;go_wp2;go_roundw
          case rel=>exact⟨k+1,o,by omega,by go_num,HN2,HM0,HM1,HM2,hBz⟩
          case measure=>simp[intOf];omega
        ·have e6:=beqF hf4
         have HN2:=Lib.hid (HNC.out.trans (by rw[if_neg (by omega)]));clear hf3 hf4 HNC;go_wp2;go_roundw
         case rel=>exact⟨k+1,o,by omega,by go_num,HN2,HL0,HL1,HL2,hBw⟩
         case measure=>simp[intOf];omega
   ·obtain rfl:k=l.length:=by omega
    have hq1: ¬(l.length:Int)<(l.length:Int):=by omega
    have ES:Hid (R=o):=Lib.hid (by rw[HS.out,HLN.out,List.drop_length];rfl);have z0:=HK1.out.cell 0 _ rfl;have f0:=HK1.out.free 0;have z1:=HK1.out.cell 1 _ rfl;have f1:=HK1.out.free 1;have z2:=HK1.out.cell 2 _ rfl;have f2:=HK1.out.free 2;have u0:=HK2.out.cell 0 _ rfl;have u1:=HK2.out.cell 1 _ rfl;have u2:=HK2.out.cell 2 _ rfl;clear HS;have KZ:=(HK1.out).setAll [.int .i64 o.k,.int .i64 o.n,.string o.s] rfl;have hbz:=below_setAll (l:=[.int .i64 o.k,.int .i64 o.n,.string o.s]) (i:=0) hBr (g:=w.heap.size+1) (by omega);simp only[setAll,Nat.reduceAdd]at KZ hbz;have v0:=KZ.cell 0 _ rfl;have v1:=KZ.cell 1 _ rfl;have v2:=KZ.cell 2 _ rfl;clear KZ;go_wp2;refine bodyPost_ret (v:= .agg #[.int .i64 o.k,.int .i64 o.n,.string o.s]) (by simp[results,Tryz.results139,go_sem,v0,v1,v2]) rfl ?_;exact⟨by rw[ES.out],hbz⟩
end Go.Proofs.YtblhidmkalleoaaGreatDoor
namespace Go.Proofs.YtblhidmkalleoaaGreatDoor
open Go.RowKit
theorem ones_of {L:List Cnt}{bl:List Tl}(h:av L=bl.map fun x=>([x.v],x.n)):Ones L (tls bl):=by
 have hl:L.length=bl.length:=by have:=congrArg List.length h;unfold av at this;rwa[List.length_map,List.length_map]at this
 refine⟨by unfold tls;rw[List.length_map];exact hl,fun k c hk=> ?_⟩;have h1:(av L)[k]?=some (c.r,c.n):=by unfold av;rw[List.getElem?_map,hk];rfl
 rw[h,List.getElem?_map]at h1;cases hb:bl[k]? with
 |none=>rw[hb]at h1;cases h1
 |some x=>
  rw[hb]at h1;injection h1 with h1;injection h1 with h2 h3;exact⟨x.v,h2.symm,by unfold tls;rw[List.getElem?_map,hb,←h3];rfl⟩
set_option maxHeartbeats 8000000 in
set_option maxRecDepth 10000 in
theorem rrow_any (p:Pl)(g:Gm)(w:World)(hpa:Sl w p.va p.aggs.length (aggCells p.aggs))(hg:g.ok w)(hbl:g.bags.length=p.aggs.length)(h8:g.r.length≤8)(h4:p.aggs.length≤4)(hlb: ∀q∈g.bags,q.2.length≤1099511627776)
 (hfg: ∀a q,(a,q)∈p.aggs.zip (g.bags.map (·.2))→figG a.1 g.n q=if a.1=1 then⟨2,g.n,⟨#[]⟩⟩else figF a.1 (tls q)):
 Calls Tryz.prog 71 #[.agg #[.int .i64 p.kind,.int .i64 p.mode,.int .i64 p.low,.int .i64 p.high,.int .i64 p.size,.int .i64 p.limit,p.vl,p.vr,p.vk,p.vq,.bool p.grouped,p.vg,p.va],g.agg] w fun e w'=> ∃v',e= .returned v'∧w'.ownsRow (w.heap.size+2) 112 3 v' (rowG p g.gp).length (rowCells (rowG p g.gp))∧Below w.heap.size w w':=by
 have HPA:=Lib.hid hpa;have HG:=Lib.hid hg;have HFG0:=Lib.hid hfg;have HCL:=Lib.hid (fun W (h:Below w.heap.size w W)=>copy_own g.v g.r W (hg.row.below h) (by omega));obtain⟨Z,hZ⟩: ∃Z,rowG p g.gp=Z:=⟨_,rfl⟩;have HZ:Hid (Z=g.r++(p.aggs.zip (g.bags.map (·.2))).map fun q=>figG q.1.1 g.n q.2):=Lib.hid (by rw[←hZ];rfl);rw[hZ];clear hZ;obtain⟨A5,c5,hva,n5,m5,-⟩:=id HPA.out;obtain⟨gv,gr,gn,gvb,gbags⟩:=g;obtain⟨Ar,cr,hv,nr,mr,-⟩:=id hg.row;obtain⟨Ab,cb,hvb,nb,mb,-⟩:=id hg.sl;simp only at hv hvb nr nb hbl h8 HZ HFG0;subst hv hvb;unfold maxLen at m5 mr mb;unfold Gm.agg;rw[hva]at HPA⊢;clear hva hg hpa hfg;simp only at HCL hlb⊢;have hB:=below_trans (below_alloc w (.cells #[.int .i64 p.kind,.int .i64 p.mode,.int .i64 p.low,.int .i64 p.high,.int .i64 p.size,.int .i64 p.limit,p.vl,p.vr,p.vk,p.vq,.bool p.grouped,p.vg,.slice A5 p.aggs.length c5] 25)) (below_alloc _ (.cells #[.slice Ar gr.length cr,.int .i64 gn,.slice Ab gbags.length cb] 97));have K1:=new_second w 97 #[.slice Ar gr.length cr,.int .i64 gn,.slice Ab gbags.length cb] (.cells #[.int .i64 p.kind,.int .i64 p.mode,.int .i64 p.low,.int .i64 p.high,.int .i64 p.size,.int .i64 p.limit,p.vl,p.vr,p.vk,p.vq,.bool p.grouped,p.vg,.slice A5 p.aggs.length c5] 25);have K0:=(new_first w 25 #[.int .i64 p.kind,.int .i64 p.mode,.int .i64 p.low,.int .i64 p.high,.int .i64 p.size,.int .i64 p.limit,p.vl,p.vr,p.vk,p.vq,.bool p.grouped,p.vg,.slice A5 p.aggs.length c5] (.cells #[.slice Ar gr.length cr,.int .i64 gn,.slice Ab gbags.length cb] 97));have HBL:=Lib.hid hbl;have HLB:=Lib.hid hlb;clear hbl hlb;go_enter Tryz.func71,Tryz.ntmps71
 go_wp2_with fail
 refine Calls.mono (by with_reducible exact HCL.out _ hB) ?_;rintro e w1 ⟨v1,rfl,hown1,hb1⟩;have hbw:=below_trans hB hb1;have HOW:=Lib.hid hown1;simp only[World.size_alloc]at HOW;have HL1:=Lib.hid (K1.below hb1);have HL0:=Lib.hid (K0.below hb1);have hs1:w.heap.size+2≤w1.heap.size:=by have:=hb1.size;simp at this;omega
 clear hown1 hB hb1 K1 K0 HCL
 go_wp2_with fail
 go_loopw[5,6] (fun ov i wr=> ∃k:Nat,k≤p.aggs.length∧i= .int .i64 k∧Hid (wr.ownsRow (w.heap.size+2) 112 3 ov (gr.length+k) (rowCells (gr++((p.aggs.zip (gbags.map (·.2))).take k).map fun q=>figG q.1.1 gn q.2)))∧Hid (Blk wr (w.heap.size+1) 97 #[.slice Ar gr.length cr,.int .i64 gn,.slice Ab gbags.length cb])∧Hid (Blk wr w.heap.size 25 #[.int .i64 p.kind,.int .i64 p.mode,.int .i64 p.low,.int .i64 p.high,.int .i64 p.size,.int .i64 p.limit,p.vl,p.vr,p.vk,p.vq,.bool p.grouped,p.vg,.slice A5 p.aggs.length c5])∧w.heap.size+2≤wr.heap.size∧Below w.heap.size w wr) (fun _ i _=>p.aggs.length-(intOf i).toNat)
 case atStart=>exact⟨0,by omega,rfl,Lib.hid (by simpa using HOW.out),HL1,HL0,hs1,hbw⟩
 case round=>
  rename World=>wr1
  clear HL1 HL0 HOW hs1 hbw;obtain⟨k,hk,rfl,HO,HKG,HKP,hsr,hbr⟩:=hrel;have y12:=HKP.out.cell 12 _ rfl;by_cases hlt:k<p.aggs.length
  ·have hx:=List.getElem?_eq_getElem (l:=p.aggs) hlt
   generalize p.aggs[k]=x at hx;obtain⟨b5,o5,hA5,-,hc5⟩:=agg_at HPA.out rfl hx;subst hA5;obtain⟨d1,-⟩:=hc5 _ hbr;have hlt2:k<gbags.length:=by have:=HBL.out;omega
   have hq:=List.getElem?_eq_getElem (l:=gbags) hlt2;generalize gbags[k]=q at hq;obtain⟨bb,ob,hAb,hbb,hcb⟩:=cellv_at HG.out.sl rfl hq;subst hAb;have hz:=zip_at (m:=gbags.map (·.2)) hx (by rw[List.getElem?_map,hq];rfl);have HZQ:=Lib.hid (map_step (f:=fun q:(Int×Int)×List Tl=>figG q.1.1 gn q.2) hz);have HFE:=Lib.hid (HFG0.out _ _ (List.mem_of_getElem? hz));have HBQ:=Lib.hid (HG.out.bags q (List.mem_of_getElem? hq));have HLQ:=Lib.hid (HLB.out q (List.mem_of_getElem? hq));obtain⟨fn,col⟩:=x;obtain⟨bv,bl⟩:=q;simp only at d1 hcb HZQ HFE HBQ HLQ;have HCB:=Lib.hid hcb;have HC5:=Lib.hid hc5;obtain⟨Bq,kq,eq,nq,mq,-⟩:=id HBQ.out;subst eq;unfold maxLen at mq;obtain⟨F,hF⟩: ∃F,figG fn gn bl=F:=⟨_,rfl⟩;rw[hF]at HZQ HFE;have Q1:Hid (gr.length+k+1≤maxLen):=Lib.hid (by unfold maxLen;omega);have Q2:Hid ((gr.length+k+1)*32≤140737488355328):=Lib.hid (by omega);have k1':(k:Int)<(gbags.length:Int):=by omega
   have k2':(k:Int)<(p.aggs.length:Int):=by omega
   have k0':(0:Int)≤(k:Int):=by omega
   have HBB:=Lib.hid hbb;clear hx hq hlt2 hz hF hcb hbb;by_cases hfn:fn=1
   ·have q1:=beqT hfn
    have HFX:Hid (F=⟨2,gn,⟨#[]⟩⟩):=Lib.hid (HFE.out.trans (if_pos hfn));have z1:=HKG.out.cell 1 _ rfl;have HOX:=Lib.hid (HO.out.alloc (.cells #[.int .i64 2,.int .i64 gn,.string ⟨#[]⟩] 112));have HBX:=Lib.hid (hbr.alloc hbr.size (.cells #[.int .i64 2,.int .i64 gn,.string ⟨#[]⟩] 112));have HKX:=Lib.hid (HKG.out.alloc (.cells #[.int .i64 2,.int .i64 gn,.string ⟨#[]⟩] 112));have HPX:=Lib.hid (HKP.out.alloc (.cells #[.int .i64 2,.int .i64 gn,.string ⟨#[]⟩] 112));have HVX:=Lib.hid (Sl.block (Blk.new wr1 112 #[.int .i64 2,.int .i64 gn,.string ⟨#[]⟩]) 1 1 (Nat.le_refl _) (by decide));clear hfn HO HKG
    go_wp2_with (at_builtin;refine wpList_app rfl (.tmp 26) (.tmp 30) 61 rfl (w.heap.size+2) 112 3 32 Tryz.underlying61 valJ u5 (gr.length+k) _ rfl HOX.out _ 1 [.int .i64 2,.int .i64 gn,.string ⟨#[]⟩] rfl HVX.out rfl (by simp[Value.oneCell']) Q1.out Q2.out (by simp;omega) ?_)
    intro v4 w4 hown4 hg3 hat4
    have H5:Hid (w4.ownsRow (w.heap.size+2) 112 3 v4 (gr.length+(k+1)) (rowCells (gr++((p.aggs.zip (gbags.map (·.2))).take (k+1)).map fun q=>figG q.1.1 gn q.2))):=Lib.hid (by
     rw[HZQ.out,←List.append_assoc,rcApp,rowCells_one1,HFX.out];simp only[List.map_take]at hown4⊢;exact hown4)
    have hne:=fun j hj=>own_ge HOX.out j hj;have hb5:=below_grown HBX.out hg3 (fun j hj=>by have:=hne j hj;omega);have hs5:w.heap.size+2≤w4.heap.size:=by have h1:=hg3.size;simp at h1;omega
    have KG5:=Lib.hid (HKX.out.grown hg3 (fun e=>by have:=hne _ e;omega));have KP5:=Lib.hid (HPX.out.grown hg3 (fun e=>by have:=hne _ e;omega));clear hown4 hg3 hat4 hne;go_wp2;go_roundw
    case rel=>
     first
      |exact⟨k+1,by omega,by go_num,H5,KG5,KP5,hs5,hb5⟩
      |((repeat apply Exists.intro);exact⟨⟨k+1,by omega,by go_num,H5,KG5,KP5,hs5,hb5⟩,rfl⟩)
    case measure=>simp[intOf];omega
   ·have q1:=beqF hfn
    have HFX:Hid (F=figF fn (tls bl)):=Lib.hid (HFE.out.trans (if_neg hfn));have hbw1:=hbr.size;clear hfn
    go_wp2_with fail
    go_loopw[7,8] (fun vv i wr=> ∃(j:Nat) (L:List Cnt),j≤bl.length∧i= .int .i64 j∧L.length=j∧Hid (OwnV wr wr1.heap.size vv L)∧Hid (av L=(bl.take j).map fun x=>([x.v],x.n))∧Below wr1.heap.size wr1 wr) (fun _ i _=>bl.length-(intOf i).toNat)
    case atStart=>exact⟨0,[],by omega,rfl,rfl,Lib.hid (OwnV.nil _ _),Lib.hid rfl,Below.refl _ _⟩
    case round=>
     rename World=>wr2
     obtain⟨j,L,hj,rfl,hL,HV,HA,hb2⟩:=hrel;have hBr:=below_trans hbr hb2;have HKG2:=Lib.hid (HKG.out.below hb2);have z2:=HKG2.out.cell 2 _ rfl;have z3:=HCB.out _ hBr;by_cases hlj:j<bl.length
     ·have hy:=List.getElem?_eq_getElem (l:=bl) hlj
      generalize bl[j]=y at hy;obtain⟨bt,ot,hBq,hbt,hct⟩:=tl_at HBQ.out rfl hy;subst hBq;have HYS:=Lib.hid (map_step (f:=fun x:Tl=>([x.v],x.n)) hy);obtain⟨⟨yk,yn,ys⟩,yc⟩:=y;simp only at hct HYS;have HCT:=Lib.hid hct;have HBT:=Lib.hid hbt;have HSS:=Lib.hid (fun w' (h:Below wr2.heap.size wr2 w')=>And.intro ((HKG2.out.below h).cell 2 _ rfl) (And.intro (HCB.out w' (below_trans hBr h)) (And.intro ((HCT.out w' (below_trans hBr h)).1) (And.intro ((HCT.out w' (below_trans hBr h)).2.1) (And.intro ((HCT.out w' (below_trans hBr h)).2.2.1) ((HCT.out w' (below_trans hBr h)).2.2.2))))));have hy0:Below wr2.heap.size wr2 wr2.drew:=(Below.refl _ wr2).drew;have j1':(j:Int)<(bl.length:Int):=by omega
      have j0':(0:Int)≤(j:Int):=by omega
      have HVX:=Lib.hid (HV.out.below (show Below wr2.heap.size wr2 ((wr2.alloc (.cells #[.int .i64 yk,.int .i64 yn,.string ys] 112)).alloc (.cells #[.slice (some ⟨wr2.heap.size,0,none⟩) 1 1,.int .i64 yc] 115)).drew from(below_trans (below_alloc _ _) (below_alloc _ _)).drew));have HBX:=Lib.hid (show Below wr2.heap.size wr2 ((wr2.alloc (.cells #[.int .i64 yk,.int .i64 yn,.string ys] 112)).alloc (.cells #[.slice (some ⟨wr2.heap.size,0,none⟩) 1 1,.int .i64 yc] 115)).drew from(below_trans (below_alloc _ _) (below_alloc _ _)).drew);have HR1:=Lib.hid (show Sl ((wr2.alloc (.cells #[.int .i64 yk,.int .i64 yn,.string ys] 112)).alloc (.cells #[.slice (some ⟨wr2.heap.size,0,none⟩) 1 1,.int .i64 yc] 115)).drew (.slice (some ⟨wr2.heap.size,0,none⟩) 1 1) 1 (rowCells [(⟨yk,yn,ys⟩:Val)])from(Sl.block (new_first wr2 112 #[.int .i64 yk,.int .i64 yn,.string ys] (.cells #[.slice (some ⟨wr2.heap.size,0,none⟩) 1 1,.int .i64 yc] 115)) 1 1 (Nat.le_refl _) (by decide)).drew);have HC1:=Lib.hid (show Sl ((wr2.alloc (.cells #[.int .i64 yk,.int .i64 yn,.string ys] 112)).alloc (.cells #[.slice (some ⟨wr2.heap.size,0,none⟩) 1 1,.int .i64 yc] 115)).drew (.slice (some ⟨wr2.heap.size+1,0,none⟩) 1 1) 1 [.slice (some ⟨wr2.heap.size,0,none⟩) 1 1,.int .i64 yc]from(Sl.block (new_second wr2 115 #[.slice (some ⟨wr2.heap.size,0,none⟩) 1 1,.int .i64 yc] (.cells #[.int .i64 yk,.int .i64 yn,.string ys] 112)) 1 1 (Nat.le_refl _) (by decide)).drew);have hszx:(((wr2.alloc (.cells #[.int .i64 yk,.int .i64 yn,.string ys] 112)).alloc (.cells #[.slice (some ⟨wr2.heap.size,0,none⟩) 1 1,.int .i64 yc] 115)).drew).heap.size=wr2.heap.size+1+1:=by rw[World.size_drew,World.size_alloc,World.size_alloc]
      have HSZ:=Lib.hid hszx;have Q3:Hid (L.length+1≤maxLen):=Lib.hid (by have:=HLQ.out;unfold maxLen;omega);have Q4:Hid ((L.length+1)*32≤140737488355328):=Lib.hid (by have:=HLQ.out;omega);clear hy hct hbt hszx
      go_upto_region 11 with fail
      refine tr (S:=(fun w'=>w'.cell? ⟨w.heap.size+1,2,none⟩=some (.slice (some ⟨bb,ob,none⟩) gbags.length cb)∧w'.cell? ⟨bb,ob+k,none⟩=some (.slice (some ⟨bt,ot,none⟩) bl.length kq)∧w'.cell? ⟨bt,ot+j*4,none⟩=some (.int .i64 yk)∧w'.cell? ⟨bt,ot+j*4+1,none⟩=some (.int .i64 yn)∧w'.cell? ⟨bt,ot+j*4+2,none⟩=some (.string ys)∧w'.cell? ⟨bt,ot+j*4+3,none⟩=some (.int .i64 yc))) (HSS.out _ hy0) (fun hHeld=> ?_);refine tk 0 ?_;refine tk 1 ?_;refine tk 2 ?_;refine tk 3 ?_;refine tk 4 ?_;refine tk 5 ?_;refine tk 6 ?_;refine tk 7 ?_;refine tk 8 ?_;refine tk 9 ?_;refine tk 11 ?_;refine tk 12 ?_;refine tk 13 ?_;refine tk 14 ?_;refine tk 15 ?_;refine tk 16 ?_;refine tk 17 ?_;refine tk 18 ?_;refine tk 19 ?_;refine tc 10 ?_;intro K hK;go_simp;refine hK.out _ _ (HSS.out _ (below_alloc wr2 (.cells #[.int .i64 yk,.int .i64 yn,.string ys] 112)).drew) (fun hHeld10=> ?_);clear hK K;refine tk 20 ?_;refine tc 21 ?_;intro K hK;go_simp;refine hK.out _ _ (HSS.out _ HBX.out) (fun hHeld21=> ?_);clear hK K;refine tc 22 ?_;intro K hK;refine step_app (by rfl) _ _ 27 (by rfl) wr1.heap.size 115 2 32 Tryz.underlying27 cntI u7 L.length _ (by rfl) HVX.out.own _ 1 [.slice (some ⟨wr2.heap.size,0,none⟩) 1 1,.int .i64 yc] (by rfl) HC1.out rfl (by simp[Value.oneCell']) Q3.out Q4.out (by have h1:=hb2.size;have h2:=HSZ.out;omega) ?_;intro v5 w5 hown5 hg5 hat5
      have HVN:=Lib.hid (HVX.out.snoc (c:=⟨.slice (some ⟨wr2.heap.size,0,none⟩) 1 1,[⟨yk,yn,ys⟩],yc⟩) hown5 hg5 (by simpa using hat5) HR1.out (fun i hi=>by
       have e:wr2.heap.size=i:=by injection hi
       subst e;exact⟨by have:=HSZ.out;omega,fun e=>by have:=own_lt HV.out.own _ e;omega⟩))
      have HAN:Hid (av (L++[⟨.slice (some ⟨wr2.heap.size,0,none⟩) 1 1,[⟨yk,yn,ys⟩],yc⟩])=(bl.take (j+1)).map fun x=>([x.v],x.n)):=Lib.hid (by rw[HYS.out,←HA.out];exact List.map_append);have HBN:=(below_trans hb2 HBX.out).grown hg5 (below_trans hb2 HBX.out).size (fun i hi=>own_ge HVX.out.own i hi);have HBW:=below_trans hbr HBN;have KGN:=HKG.out.below HBN;refine hK.out _ _ (And.intro (KGN.cell 2 _ rfl) (And.intro (HCB.out _ HBW) (And.intro ((HCT.out _ HBW).1) (And.intro ((HCT.out _ HBW).2.1) (And.intro ((HCT.out _ HBW).2.2.1) ((HCT.out _ HBW).2.2.2)))))) (fun hHeld22=> ?_);clear hK K;refine tk 23 ?_;refine td ?_;go_wp2;go_roundw
      case rel=>
       first
        |exact⟨j+1,_,by omega,by go_num,by rw[List.length_append,hL];rfl,HVN,HAN,HBN⟩
        |((repeat apply Exists.intro);exact⟨⟨j+1,_,by omega,by go_num,by rw[List.length_append,hL];rfl,HVN,HAN,HBN⟩,rfl⟩)
      case measure=>simp[intOf];omega
     ·obtain rfl:j=bl.length:=by omega
      have hq1: ¬(bl.length:Int)<(bl.length:Int):=by omega
      have HA2:Hid (av L=bl.map fun x=>([x.v],x.n)):=Lib.hid (by have:=HA.out;rwa[List.take_length]at this);obtain⟨Al,nl,cl,rfl⟩:=own_slice HV.out.own;have hfc:=Lib.hid (rfigure_any fn _ L (tls bl) wr2 HV.out.view (ones_of HA2.out));rw[←HFX.out]at hfc;have d1':=(HC5.out _ hBr).1;have y12':=(HKP.out.below hb2).cell 12 _ rfl;clear HA HA2 HV
      go_wp2_with fail
      refine Calls.mono (by with_reducible exact hfc.out) ?_;rintro e w3 ⟨rfl,hb3⟩;have hB3:=below_trans hb2 hb3;have HBX:=Lib.hid ((below_trans hbr hB3).alloc (below_trans hbr hB3).size (.cells #[.int .i64 F.k,.int .i64 F.n,.string F.s] 112));have HOX:=Lib.hid ((own_below HO.out hB3).alloc (.cells #[.int .i64 F.k,.int .i64 F.n,.string F.s] 112));have HKX:=Lib.hid ((HKG.out.below hB3).alloc (.cells #[.int .i64 F.k,.int .i64 F.n,.string F.s] 112));have HPX:=Lib.hid ((HKP.out.below hB3).alloc (.cells #[.int .i64 F.k,.int .i64 F.n,.string F.s] 112));have HVX:=Lib.hid (Sl.block (Blk.new w3 112 #[.int .i64 F.k,.int .i64 F.n,.string F.s]) 1 1 (Nat.le_refl _) (by decide));have hs3:=hB3.size;clear HO HKG hfc HFX
      go_wp2_with (at_builtin;refine wpList_app rfl (.tmp 65) (.tmp 75) 61 rfl (w.heap.size+2) 112 3 32 Tryz.underlying61 valJ u5 (gr.length+k) _ rfl HOX.out _ 1 [.int .i64 F.k,.int .i64 F.n,.string F.s] rfl HVX.out rfl (by simp[Value.oneCell']) Q1.out Q2.out (by simp;omega) ?_)
      intro v4 w4 hown4 hg3 hat4
      have H5:Hid (w4.ownsRow (w.heap.size+2) 112 3 v4 (gr.length+(k+1)) (rowCells (gr++((p.aggs.zip (gbags.map (·.2))).take (k+1)).map fun q=>figG q.1.1 gn q.2))):=Lib.hid (by
       rw[HZQ.out,←List.append_assoc,rcApp,rowCells_one1];simp only[List.map_take]at hown4⊢;exact hown4)
      have hne:=fun j hj=>own_ge HOX.out j hj;have hb5:=below_grown HBX.out hg3 (fun j hj=>by have:=hne j hj;omega);have hs5:w.heap.size+2≤w4.heap.size:=by have h1:=hg3.size;simp at h1;omega
      have KG5:=Lib.hid (HKX.out.grown hg3 (fun e=>by have:=hne _ e;omega));have KP5:=Lib.hid (HPX.out.grown hg3 (fun e=>by have:=hne _ e;omega));clear hown4 hg3 hat4 hne;go_wp2;go_roundw
      case rel=>
       first
        |exact⟨k+1,by omega,by go_num,H5,KG5,KP5,hs5,hb5⟩
        |((repeat apply Exists.intro);exact⟨⟨k+1,by omega,by go_num,H5,KG5,KP5,hs5,hb5⟩,rfl⟩)
      case measure=>simp[intOf];omega
  ·obtain rfl:k=p.aggs.length:=by omega
   have hq1: ¬(p.aggs.length:Int)<(p.aggs.length:Int):=by omega
   have HZE:Hid ((p.aggs.zip (gbags.map (·.2))).take p.aggs.length=p.aggs.zip (gbags.map (·.2))):=Lib.hid (List.take_of_length_le (by rw[List.length_zip];omega));rw[HZE.out,←HZ.out]at HO;have hZL:Z.length=gr.length+p.aggs.length:=by have:=HBL.out;rw[HZ.out,List.length_append,List.length_map,List.length_zip,List.length_map];omega
   have HO2:=Lib.hid (show wr1.ownsRow (w.heap.size+2) 112 3 u5 Z.length (rowCells Z)from by rw[hZL];exact HO.out);clear hZL HO;go_wp2;go_ret;exact⟨_,rfl,HO2.out,hbr⟩
end Go.Proofs.YtblhidmkalleoaaGreatDoor
