/-Batches: figure. -/
import Derived.Test.YtjhbeecmdgglgaaGreatDoorGrpX24
import Derived.Test.YtjhbeecmdgglgaaGreatDoorGrpX3
set_option linter.unusedSimpArgs false
set_option linter.unusedVariables false
namespace Go.Proofs.YtjhbeecmdgglgaaGreatDoor
open Go.RowKit
def colC (col:Int) (l:List Cnt):List (Val×Int):=l.map fun x=>(x.r.getD col.toNat nullG,x.n)
def bstep (fn:Int) (s:Int×Bool×Val) (q:Val×Int):Int×Bool×Val:=
 if q.1.k=0 then s else(wrapI (s.1+wrapI (q.1.n*q.2)),true,if s.2.1=false∨(fn=3∧cmpV q.1 s.2.2<0)∨(fn=4∧0<cmpV q.1 s.2.2)then q.1 else s.2.2)
def bfin (fn:Int) (s:Int×Bool×Val):Val:=if s.2.1=true∧fn≤2 then⟨2,s.1,⟨#[]⟩⟩else s.2.2
structure BRel (fn:Int) (s:Int×Bool×Val) (o:Val):Prop where
 no:s.2.1=false→s.1=0∧s.2.2=nullG∧o=nullG
 yes:s.2.1=true→o.k≠0∧(fn=2→o=⟨2,s.1,⟨#[]⟩⟩)∧(fn≠2→o=s.2.2)
theorem brel_step {fn:Int}{s:Int×Bool×Val}{o:Val}(h:BRel fn s o)(q:Val×Int):BRel fn (bstep fn s q) (stepF fn o q):=by
 unfold bstep stepF;by_cases hk:q.1.k=0
 ·rw[if_pos hk,if_pos hk];exact h
 ·rw[if_neg hk,if_neg hk]
  refine⟨fun e=>(by cases e),fun _=> ?_⟩;obtain⟨n,th,b⟩:=s;cases th with
  |false=>
   obtain⟨h1,h2,h3⟩:=h.no rfl;simp only at h1 h2 h3;subst h1 h2 h3;by_cases hf:fn=2
   ·rw[if_pos hf]
    exact⟨by simp,fun _=>rfl,fun h=>absurd hf h⟩
   ·rw[if_neg hf,if_pos (.inl rfl),if_pos (.inl rfl)]
    exact⟨hk,fun h=>absurd h hf,fun _=>rfl⟩
  |true=>
   obtain⟨h1,h2,h3⟩:=h.yes rfl;by_cases hf:fn=2
   ·rw[if_pos hf,h2 hf]
    exact⟨by simp,fun _=>rfl,fun h=>absurd hf h⟩
   ·rw[if_neg hf]
    have e:=h3 hf;simp only at e;subst e;refine⟨?_,fun h=>absurd h hf,fun _=> ?_⟩
    ·split
     ·exact hk
     ·exact h1
    ·simp only[h1,Bool.true_eq_false,false_or]
theorem brel_all {fn:Int}: ∀ {L:List (Val×Int)} {s:Int×Bool×Val} {o:Val},BRel fn s o→BRel fn (L.foldl (bstep fn) s) (L.foldl (stepF fn) o)
 |[],_,_,h=>h
 |q::L,_,_,h=>brel_all (L:=L) (brel_step h q)
theorem bfin_eq {fn:Int}(hfn:fn=2∨fn=3∨fn=4)(L:List (Val×Int)):bfin fn (L.foldl (bstep fn) (0,false,nullG))=figF fn L:=by
 have h:=brel_all (L:=L) (show BRel fn (0,false,nullG) nullG from⟨fun _=>⟨rfl,rfl,rfl⟩,fun e=>by cases e⟩);unfold figF;rw[if_neg (by omega)];generalize L.foldl (bstep fn) (0,false,nullG)=s at h⊢;obtain⟨n,th,b⟩:=s;unfold bfin;cases th with
 |false=>
  obtain⟨h1,h2,h3⟩:=h.no rfl;rw[if_neg (by simp),h3];exact h2
 |true=>
  obtain⟨h1,h2,h3⟩:=h.yes rfl;by_cases hf:fn=2
  ·rw[if_pos ⟨rfl,by omega⟩,h2 hf]
  ·rw[if_neg (fun h=>by have:=h.2;omega),h3 hf]
theorem colC_at {col:Int}{l:List Cnt}{k:Nat}{x:Cnt}(h:l[k]?=some x):(colC col l)[k]?=some (x.r.getD col.toNat nullG,x.n):=by unfold colC;rw[List.getElem?_map,h];rfl
theorem colC_len (col:Int)(l:List Cnt):(colC col l).length=l.length:=List.length_map _
set_option maxHeartbeats 8000000 in
set_option maxRecDepth 10000 in
theorem bfigure_one (col:Int)(v:Value)(l:List Cnt)(w:World)(hv:View w v l)(hne:1≤l.length):
 Calls Tryz.prog 57 #[.agg #[.int .i64 1,.int .i64 col],v] w fun e w'=>e= .returned (.agg #[.int .i64 (figF 1 (colC col l)).k,.int .i64 (figF 1 (colC col l)).n,.string (figF 1 (colC col l)).s])∧Below w.heap.size w w':=by
 have HV:=Lib.hid hv;obtain⟨L,hL⟩: ∃L,colC col l=L:=⟨_,rfl⟩;have HLA:=Lib.hid (fun k x (hx:l[k]?=some x)=>colC_at (col:=col) hx);have HLN:=Lib.hid (colC_len col l);rw[hL]at HLA HLN⊢;clear hL;obtain⟨R,hR⟩: ∃R,figF 1 L=R:=⟨_,rfl⟩;rw[hR];have EE:Hid (R=⟨2,L.foldl cntF 0,⟨#[]⟩⟩):=Lib.hid hR.symm;obtain⟨Av,cv,rfl,nv,mv,-⟩:=id hv.sl;unfold maxLen at mv;have HNE:=Lib.hid hne;have K0:=Blk.new w 94 #[.int .i64 1,.int .i64 col];obtain⟨wa,hwa⟩: ∃V,w.alloc (.cells #[.int .i64 1,.int .i64 col] 94)=V:=⟨_,rfl⟩;have hBa:=below_alloc w (.cells #[.int .i64 1,.int .i64 col] 94);rw[hwa]at K0 hBa;have hsa:wa.heap.size=w.heap.size+1:=by rw[←hwa,World.size_alloc]
 have HKR:=Lib.hid (Blk.new wa 68 #[.int .i64 0,.int .i64 0,.string ⟨#[]⟩]);have hBb:=below_trans (below_alloc wa (.cells #[.int .i64 0,.int .i64 0,.string ⟨#[]⟩] 68)) (below_alloc (wa.alloc (.cells #[.int .i64 0,.int .i64 0,.string ⟨#[]⟩] 68)) (.cells #[.int .i64 0,.int .i64 0,.string ⟨#[]⟩] 68));obtain⟨wb,hwb⟩: ∃V,(wa.alloc (.cells #[.int .i64 0,.int .i64 0,.string ⟨#[]⟩] 68)).alloc (.cells #[.int .i64 0,.int .i64 0,.string ⟨#[]⟩] 68)=V:=⟨_,rfl⟩;have HKR2:=Lib.hid (HKR.out.below (below_alloc _ (.cells #[.int .i64 0,.int .i64 0,.string ⟨#[]⟩] 68)));rw[hwb]at hBb HKR2;have HB:=Lib.hid (below_trans hBa hBb);have HK0:=Lib.hid (K0.below hBb);clear hv hne hR hBb K0 hBa HKR;go_enter Tryz.func57,Tryz.ntmps57
 go_upto_region 3 with fail
 clear hwa hwb
 go_wp2_with fail
 go_loopw[5,6,9,14] (fun nv tv _ iv wr=> ∃(k:Nat) (s:Int),k≤l.length∧iv= .int .i64 k∧nv= .int .i64 s∧tv= .bool (decide (0<k))∧Hid (L.foldl cntF 0=(L.drop k).foldl cntF s)∧Below wb.heap.size wb wr) (fun _ _ _ iv _=>l.length-(intOf iv).toNat)
 case atStart=>exact⟨0,0,by omega,rfl,rfl,rfl,Lib.hid rfl,Below.refl _ _⟩
 case round=>
  rename World=>wr1
  obtain⟨k,s,hk,rfl,rfl,rfl,HS,hbr⟩:=hrel;have hBr:=below_trans HB.out hbr;have HK1:=HK0.out.below hbr;by_cases hlt:k<l.length
  ·have hx:=List.getElem?_eq_getElem (l:=l) hlt
   generalize l[k]=x at hx;obtain⟨bb,ob,hAb,-,hcb⟩:=cnt_cells HV.out.sl rfl hx;obtain⟨d0,d1⟩:=hcb _ hBr;subst hAb;obtain⟨Ax,cx,ex,-⟩:=id (HV.out.rows x (List.mem_of_getElem? hx));rw[ex]at d0;have HN:Hid (L.foldl cntF 0=(L.drop (k+1)).foldl cntF (cntF s (x.r.getD col.toNat nullG,x.n))):=Lib.hid (by rw[HS.out,foldl_at (HLA.out k x hx)]);have hcf:cntF s (x.r.getD col.toNat nullG,x.n)=wrap64 (s+x.n):=IntWalk.i64_left _;rw[hcf]at HN;have i0:(0:Int)≤(k:Int):=by omega
   have i1:(k:Int)<(l.length:Int):=by omega
   have K2:=HK1.alloc (.cells #[.slice Ax x.r.length cx,.int .i64 x.n] 45);have y0:=K2.cell 0 _ rfl;have HBZ:=Lib.hid (hbr.alloc hbr.size (.cells #[.slice Ax x.r.length cx,.int .i64 x.n] 45));clear hx hcb ex HS hcf HK1 K2
   go_wp2_with fail
   go_roundw
   case rel=>exact⟨k+1,_,by omega,by go_num,rfl,by simp,HN,HBZ.out⟩
   case measure=>simp[intOf];omega
  ·obtain rfl:k=l.length:=by omega
   have hq1: ¬(l.length:Int)<(l.length:Int):=by omega
   have ES:Hid (R=⟨2,s,⟨#[]⟩⟩):=Lib.hid (by rw[EE.out,HS.out,←HLN.out,List.drop_length];rfl);have hth:decide (0<l.length)=true:=decide_eq_true (by have:=HNE.out;omega);rw[hth];have y0:=HK1.cell 0 _ rfl;have HKE:=HKR2.out.below hbr;rw[hsa]at HKE;have z0:=HKE.cell 0 _ rfl;have f0:=HKE.free 0;have z1:=HKE.cell 1 _ rfl;have f1:=HKE.free 1;have z2:=HKE.cell 2 _ rfl;have f2:=HKE.free 2;clear HS;have KZ:=(HKE).setAll [.int .i64 2,.int .i64 s,.string ⟨#[]⟩] rfl;have hbz:=below_setAll (l:=[.int .i64 2,.int .i64 s,.string ⟨#[]⟩]) (i:=0) hBr (g:=w.heap.size+1) (by omega);simp only[setAll,Nat.reduceAdd]at KZ hbz;have v0:=KZ.cell 0 _ rfl;have v1:=KZ.cell 1 _ rfl;have v2:=KZ.cell 2 _ rfl;clear KZ HKE HK1;go_wp2;refine bodyPost_ret (v:= .agg #[.int .i64 2,.int .i64 s,.string ⟨#[]⟩]) (by simp[results,Tryz.results57,go_sem,v0,v1,v2]) rfl ?_;exact⟨by rw[ES.out],hbz⟩
set_option maxHeartbeats 8000000 in
set_option maxRecDepth 10000 in
theorem bfigure_more (fn col:Int)(v:Value)(l:List Cnt)(w:World)(hv:View w v l)(hfn:fn=2∨fn=3∨fn=4)(hc: ∀x∈l,0≤col∧col<x.r.length):
 Calls Tryz.prog 57 #[.agg #[.int .i64 fn,.int .i64 col],v] w fun e w'=>e= .returned (.agg #[.int .i64 (figF fn (colC col l)).k,.int .i64 (figF fn (colC col l)).n,.string (figF fn (colC col l)).s])∧Below w.heap.size w w':=by
 have HV:=Lib.hid hv;have HC:=Lib.hid hc;obtain⟨L,hL⟩: ∃L,colC col l=L:=⟨_,rfl⟩;have HLA:=Lib.hid (fun k x (hx:l[k]?=some x)=>colC_at (col:=col) hx);have HLN:=Lib.hid (colC_len col l);rw[hL]at HLA HLN⊢;clear hL;obtain⟨R,hR⟩: ∃R,figF fn L=R:=⟨_,rfl⟩;rw[hR];have EE:Hid (R=bfin fn (L.foldl (bstep fn) (0,false,nullG))):=Lib.hid (by rw[bfin_eq hfn,hR]);obtain⟨Av,cv,rfl,nv,mv,-⟩:=id hv.sl;unfold maxLen at mv;have K0:=Blk.new w 94 #[.int .i64 fn,.int .i64 col];obtain⟨wa,hwa⟩: ∃V,w.alloc (.cells #[.int .i64 fn,.int .i64 col] 94)=V:=⟨_,rfl⟩;have hBa:=below_alloc w (.cells #[.int .i64 fn,.int .i64 col] 94);rw[hwa]at K0 hBa;have hsa:wa.heap.size=w.heap.size+1:=by rw[←hwa,World.size_alloc]
 have HKR:=Lib.hid (Blk.new wa 68 #[.int .i64 0,.int .i64 0,.string ⟨#[]⟩]);have HKS:=Lib.hid (Blk.new (wa.alloc (.cells #[.int .i64 0,.int .i64 0,.string ⟨#[]⟩] 68)) 68 #[.int .i64 0,.int .i64 0,.string ⟨#[]⟩]);have hBb:=below_trans (below_alloc wa (.cells #[.int .i64 0,.int .i64 0,.string ⟨#[]⟩] 68)) (below_alloc (wa.alloc (.cells #[.int .i64 0,.int .i64 0,.string ⟨#[]⟩] 68)) (.cells #[.int .i64 0,.int .i64 0,.string ⟨#[]⟩] 68));obtain⟨wb,hwb⟩: ∃V,(wa.alloc (.cells #[.int .i64 0,.int .i64 0,.string ⟨#[]⟩] 68)).alloc (.cells #[.int .i64 0,.int .i64 0,.string ⟨#[]⟩] 68)=V:=⟨_,rfl⟩;have HKR2:=Lib.hid (HKR.out.below (below_alloc _ (.cells #[.int .i64 0,.int .i64 0,.string ⟨#[]⟩] 68)));rw[World.size_alloc]at HKS;rw[hwb]at hBb HKR2 HKS;rw[hsa]at HKR2 HKS;have HB:=Lib.hid (below_trans hBa hBb);have HK0:=Lib.hid (K0.below hBb);have hf1:(fn==1)=false:=beqF (by omega);clear hv hc hR hBb K0 hBa HKR;go_enter Tryz.func57,Tryz.ntmps57
 go_upto_region 3 with fail
 clear hwa hwb
 go_wp2_with fail
 go_loopw[5,6,9,10,11,14] (fun nv tv _ _ _ iv wr=> ∃(k:Nat) (s:Int×Bool×Val),k≤l.length∧iv= .int .i64 k∧nv= .int .i64 s.1∧tv= .bool s.2.1∧Hid (R=bfin fn ((L.drop k).foldl (bstep fn) s))∧Below w.heap.size w wr∧Hid (Blk wr w.heap.size 94 #[.int .i64 fn,.int .i64 col])∧Hid (Blk wr (w.heap.size+1) 68 #[.int .i64 0,.int .i64 0,.string ⟨#[]⟩])∧Hid (Blk wr (w.heap.size+1+1) 68 #[.int .i64 s.2.2.k,.int .i64 s.2.2.n,.string s.2.2.s])) (fun _ _ _ _ _ iv _=>l.length-(intOf iv).toNat)
 case atStart=>exact⟨0,(0,false,nullG),by omega,rfl,rfl,rfl,EE,HB.out,HK0,HKR2,HKS⟩
 case round=>
  clear HB HK0 HKR2 HKS EE;rename World=>wr1
  obtain⟨k,s,hk,rfl,rfl,rfl,HS,hBr,HK0,HK1,HK2⟩:=hrel;obtain⟨n,th,bs⟩:=s;simp only at HS HK2⊢;have hsz:=HK2.out.lt;by_cases hlt:k<l.length
  ·have hx:=List.getElem?_eq_getElem (l:=l) hlt
   generalize l[k]=x at hx;obtain⟨bb,ob,hAb,-,hcb⟩:=cnt_cells HV.out.sl rfl hx;obtain⟨d0,d1⟩:=hcb _ hBr;subst hAb;have hxm:=List.mem_of_getElem? hx;have hrow:=HV.out.rows x hxm;obtain⟨c0,c1⟩:=HC.out x hxm;obtain⟨m,rfl⟩: ∃m:Nat,col=m:=⟨col.toNat,by omega⟩;have hml:m<x.r.length:=by omega
   have hy:=List.getElem?_eq_getElem (l:=x.r) hml;have HN:Hid (R=bfin fn ((L.drop (k+1)).foldl (bstep fn) (bstep fn (n,th,bs) (x.r.getD m nullG,x.n)))):=Lib.hid (by rw[HS.out,foldl_at (HLA.out k x hx)];rfl);rw[show x.r.getD m nullG=x.r[m] by simp[List.getD,hml]]at HN;obtain⟨Ax,cx,ex,nx,mx,-⟩:=id hrow;rw[ex]at d0 hrow;generalize x.r[m]=y at hy HN;obtain⟨br,orr,hBr2,-,hcr⟩:=val_at hrow rfl hy;subst hBr2;have i0:(0:Int)≤(k:Int):=by omega
   have i1:(k:Int)<(l.length:Int):=by omega
   have i2:(0:Int)≤(m:Int):=by omega
   have hB3:=hBr.alloc hBr.size (.cells #[.slice (some ⟨br,orr,none⟩) x.r.length cx,.int .i64 x.n] 45);have L0:=HK0.out.alloc (.cells #[.slice (some ⟨br,orr,none⟩) x.r.length cx,.int .i64 x.n] 45);have L1:=HK1.out.alloc (.cells #[.slice (some ⟨br,orr,none⟩) x.r.length cx,.int .i64 x.n] 45);have L2:=HK2.out.alloc (.cells #[.slice (some ⟨br,orr,none⟩) x.r.length cx,.int .i64 x.n] 45);have LX:=Blk.new wr1 45 #[.slice (some ⟨br,orr,none⟩) x.r.length cx,.int .i64 x.n];obtain⟨wc,hwc⟩: ∃V,wr1.alloc (.cells #[.slice (some ⟨br,orr,none⟩) x.r.length cx,.int .i64 x.n] 45)=V:=⟨_,rfl⟩;have hsc:wc.heap.size=wr1.heap.size+1:=by rw[←hwc,World.size_alloc]
   rw[hwc]at hB3 L0 L1 L2 LX;obtain⟨g0,g1,g2⟩:=hcr _ hB3;have y0:=L0.cell 0 _ rfl;have y1:=L0.cell 1 _ rfl;have y2:=LX.cell 1 _ rfl;have y3:=LX.cell 0 _ rfl;have hB4:=hB3.alloc hB3.size (.cells #[.int .i64 y.k,.int .i64 y.n,.string y.s] 68);have M0:=L0.alloc (.cells #[.int .i64 y.k,.int .i64 y.n,.string y.s] 68);have M1:=L1.alloc (.cells #[.int .i64 y.k,.int .i64 y.n,.string y.s] 68);have M2:=L2.alloc (.cells #[.int .i64 y.k,.int .i64 y.n,.string y.s] 68);have MX:=LX.alloc (.cells #[.int .i64 y.k,.int .i64 y.n,.string y.s] 68);have MY:=Blk.new wc 68 #[.int .i64 y.k,.int .i64 y.n,.string y.s];rw[hsc]at MY;obtain⟨wd,hwd⟩: ∃V,wc.alloc (.cells #[.int .i64 y.k,.int .i64 y.n,.string y.s] 68)=V:=⟨_,rfl⟩;rw[hwd]at hB4 M0 M1 M2 MX MY;clear hx hcb hy hxm hrow hcr HS ex c0 L0 L1 L2 LX HK0 HK1 HK2
   go_upto_region 9 with fail
   clear hwc hwd y0 y1 y3 g0 g1 g2 hB3;have z0:=MY.cell 0 _ rfl;by_cases hk0:y.k=0
   ·have e0:=beqT hk0
    have HN2:Hid (R=bfin fn ((L.drop (k+1)).foldl (bstep fn) (n,th,bs))):=Lib.hid (by rw[HN.out,show bstep fn (n,th,bs) (y,x.n)=(n,th,bs)from if_pos hk0]);have HM0:=Lib.hid M0;have HM1:=Lib.hid M1;have HM2:=Lib.hid M2;clear hk0 HN M0 M1 M2 MX MY
    go_wp2_with fail
    go_roundw
    case rel=>exact⟨k+1,(n,th,bs),by omega,by go_num,rfl,rfl,HN2,hB4,HM0,HM1,HM2⟩
    case measure=>simp[intOf];omega
   ·have e0:=beqF hk0
    have HN2:Hid (R=bfin fn ((L.drop (k+1)).foldl (bstep fn) (wrapI (n+wrapI (y.n*x.n)),true,if th=false∨(fn=3∧cmpV y bs<0)∨(fn=4∧0<cmpV y bs)then y else bs))):=Lib.hid (by rw[HN.out,show bstep fn (n,th,bs) (y,x.n)=_ from if_neg hk0]);clear hk0 HN;unfold wrapI at HN2;simp only[IntWalk.i64_left]at HN2;have z1:=MY.cell 1 _ rfl;have z2:=MY.cell 2 _ rfl;have x1:=MX.cell 1 _ rfl;have b0:=M2.cell 0 _ rfl;have b1:=M2.cell 1 _ rfl;have b2:=M2.cell 2 _ rfl
    go_wp2_with fail
    refine(compare_val y bs _).mono ?_;rintro e w6 ⟨rfl,hb6⟩;have hB6:=below_trans hB4 hb6;have N0:=M0.below hb6;have N1:=M1.below hb6;have N2:=M2.below hb6;have NY:=MY.below hb6;obtain⟨C,hC⟩: ∃C,cmpV y bs=C:=⟨_,rfl⟩;rw[hC]at HN2⊢;clear hC z0 z1 z2 x1 b0 b1 b2 hB4 M0 M1 M2 MX MY hb6;have a0:=N0.cell 0 _ rfl;have c0:=NY.cell 0 _ rfl;have c1':=NY.cell 1 _ rfl;have c2:=NY.cell 2 _ rfl;have t0:=N2.cell 0 _ rfl;have t1:=N2.cell 1 _ rfl;have t2:=N2.cell 2 _ rfl;have f0:=N2.free 0;have f1:=N2.free 1;have f2:=N2.free 2;have KZ:=N2.setAll [.int .i64 y.k,.int .i64 y.n,.string y.s] rfl;have K0:=blk_farAll (h:=w.heap.size+1+1) (l:=[.int .i64 y.k,.int .i64 y.n,.string y.s]) (i:=0) (by omega) N0;have K1:=blk_farAll (h:=w.heap.size+1+1) (l:=[.int .i64 y.k,.int .i64 y.n,.string y.s]) (i:=0) (by omega) N1;have hbz:=below_setAll (l:=[.int .i64 y.k,.int .i64 y.n,.string y.s]) (i:=0) hB6 (g:=w.heap.size+1+1) (by omega);simp only[setAll,Nat.reduceAdd]at KZ K0 K1 hbz;have HKZ:=Lib.hid KZ;have HK0:=Lib.hid K0;have HK1:=Lib.hid K1;have HBZ:=Lib.hid hbz;have HN0:=Lib.hid N0;have HN1:=Lib.hid N1;have HNZ:=Lib.hid N2;clear KZ K0 K1 hbz N0 N1 N2 NY;have q3:(fn==3)=decide (fn=3):=by rw[Bool.eq_iff_iff];simp
    have q4:(fn==4)=decide (fn=4):=by rw[Bool.eq_iff_iff];simp
    cases th with
    |false=>
     have HN3:=Lib.hid (HN2.out.trans (by rw[if_pos (.inl rfl)]));clear HN2 q3 q4
     go_wp2_with fail
     go_roundw
     case rel=>exact⟨k+1,(_,true,y),by omega,by go_num,rfl,rfl,HN3,HBZ.out,HK0,HK1,HKZ⟩
     case measure=>simp[intOf];omega
    |true=>
     have hd:(C<0∨ ¬C<0)∧(0<C∨ ¬0<C):=⟨by omega,by omega⟩;rcases hfn with rfl|rfl|rfl
     ·have HN3:=Lib.hid (HN2.out.trans (by rw[if_neg (by simp)]))
      clear HN2 hd q3 q4
      go_wp2_with fail
      go_roundw
      case rel=>exact⟨k+1,(_,true,bs),by omega,by go_num,rfl,rfl,HN3,hB6,HN0,HN1,HNZ⟩
      case measure=>simp[intOf];omega
     ·rcases hd.1 with h|h
      ·have HN3:=Lib.hid (HN2.out.trans (by rw[if_pos (.inr (.inl ⟨rfl,h⟩))]))
       have q5:decide (C<0)=true:=decide_eq_true h;clear HN2 hd q3 q4 h
       go_wp2_with fail
       go_roundw
       case rel=>exact⟨k+1,(_,true,y),by omega,by go_num,rfl,rfl,HN3,HBZ.out,HK0,HK1,HKZ⟩
       case measure=>simp[intOf];omega
      ·have HN3:=Lib.hid (HN2.out.trans (by rw[if_neg (by simp[h])]))
       have q5:decide (C<0)=false:=decide_eq_false h;clear HN2 hd q3 q4 h
       go_wp2_with fail
       go_roundw
       case rel=>exact⟨k+1,(_,true,bs),by omega,by go_num,rfl,rfl,HN3,hB6,HN0,HN1,HNZ⟩
       case measure=>simp[intOf];omega
     ·rcases hd.2 with h|h
      ·have HN3:=Lib.hid (HN2.out.trans (by rw[if_pos (.inr (.inr ⟨rfl,h⟩))]))
       have q5:decide (0<C)=true:=decide_eq_true h;clear HN2 hd q3 q4 h
       go_wp2_with fail
       go_roundw
       case rel=>exact⟨k+1,(_,true,y),by omega,by go_num,rfl,rfl,HN3,HBZ.out,HK0,HK1,HKZ⟩
       case measure=>simp[intOf];omega
      ·have HN3:=Lib.hid (HN2.out.trans (by rw[if_neg (by simp[h])]))
       have q5:decide (0<C)=false:=decide_eq_false h;clear HN2 hd q3 q4 h
       go_wp2_with fail
       go_roundw
       case rel=>exact⟨k+1,(_,true,bs),by omega,by go_num,rfl,rfl,HN3,hB6,HN0,HN1,HNZ⟩
       case measure=>simp[intOf];omega
  ·obtain rfl:k=l.length:=by omega
   have hq1: ¬(l.length:Int)<(l.length:Int):=by omega
   have ES:Hid (R=if th=true∧fn≤2 then⟨2,n,⟨#[]⟩⟩else bs):=Lib.hid (by rw[HS.out,←HLN.out,List.drop_length];rfl);have y0:=HK0.out.cell 0 _ rfl;have z0:=HK1.out.cell 0 _ rfl;have f0:=HK1.out.free 0;have z1:=HK1.out.cell 1 _ rfl;have f1:=HK1.out.free 1;have z2:=HK1.out.cell 2 _ rfl;have f2:=HK1.out.free 2;have b0:=HK2.out.cell 0 _ rfl;have b1:=HK2.out.cell 1 _ rfl;have b2:=HK2.out.cell 2 _ rfl;have hsz2:=HK1.out.lt;clear HS;by_cases hy:th=true∧fn≤2
   ·obtain⟨rfl,hf2⟩:=hy
    have ER:Hid (R=⟨2,n,⟨#[]⟩⟩):=Lib.hid (by rw[ES.out,if_pos ⟨rfl,hf2⟩]);have q2:decide (fn≤2)=true:=decide_eq_true hf2;have KZ:=(HK1.out).setAll [.int .i64 2,.int .i64 n,.string ⟨#[]⟩] rfl;have hbz:=below_setAll (l:=[.int .i64 2,.int .i64 n,.string ⟨#[]⟩]) (i:=0) hBr (g:=w.heap.size+1) (by omega);simp only[setAll,Nat.reduceAdd]at KZ hbz;have v0:=KZ.cell 0 _ rfl;have v1:=KZ.cell 1 _ rfl;have v2:=KZ.cell 2 _ rfl;clear KZ hf2 ES;go_wp2;refine bodyPost_ret (v:= .agg #[.int .i64 2,.int .i64 n,.string ⟨#[]⟩]) (by simp[results,Tryz.results57,go_sem,v0,v1,v2]) rfl ?_;exact⟨by rw[ER.out],hbz⟩
   ·have ER:Hid (R=bs):=Lib.hid (by rw[ES.out,if_neg hy])
    have KZ:=(HK1.out).setAll [.int .i64 bs.k,.int .i64 bs.n,.string bs.s] rfl;have hbz:=below_setAll (l:=[.int .i64 bs.k,.int .i64 bs.n,.string bs.s]) (i:=0) hBr (g:=w.heap.size+1) (by omega);simp only[setAll,Nat.reduceAdd]at KZ hbz;have v0:=KZ.cell 0 _ rfl;have v1:=KZ.cell 1 _ rfl;have v2:=KZ.cell 2 _ rfl;clear KZ ES;cases th with
    |false=>
     clear hy;go_wp2;refine bodyPost_ret (v:= .agg #[.int .i64 bs.k,.int .i64 bs.n,.string bs.s]) (by simp[results,Tryz.results57,go_sem,v0,v1,v2]) rfl ?_;exact⟨by rw[ER.out],hbz⟩
    |true=>
     have q2:decide (fn≤2)=false:=decide_eq_false (fun h=>hy ⟨rfl,h⟩);clear hy;go_wp2;refine bodyPost_ret (v:= .agg #[.int .i64 bs.k,.int .i64 bs.n,.string bs.s]) (by simp[results,Tryz.results57,go_sem,v0,v1,v2]) rfl ?_;exact⟨by rw[ER.out],hbz⟩
end Go.Proofs.YtjhbeecmdgglgaaGreatDoor
