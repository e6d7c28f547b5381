/-Joins: a stream's row comes. (Printed by genjn10.py.) -/
import Derived.Test.YtjodlngbiikgfaaGreatDoorGrpK24
import Derived.Test.YtjodlngbiikgfaaGreatDoorGrpK19
import Derived.Test.YtjodlngbiikgfaaGreatDoorGrpK21
set_option linter.unusedSimpArgs false
set_option linter.unusedVariables false
namespace Go.Proofs.YtjodlngbiikgfaaGreatDoor
open Go.RowKit Go.Maps
open tm (fitsB fits_of)
theorem wkF_back {g n:Nat}{vo vo':Value}(h:vo'.ownBlock=vo.ownBlock∨ ∀q,vo'.ownBlock=some q→n≤q): ∀i,i<n→wkF g vo' i→wkF g vo i:=by
 intro i hi hk;rcases hk with hk|hk
 ·exact .inl hk
 ·rcases h with h|h
  ·exact .inr (h▸hk)
  ·have:=h i hk;omega
theorem vo_step {n m:Nat}{vo vo' vo2:Value}(h:vo'.ownBlock=vo.ownBlock∨ ∀q,vo'.ownBlock=some q→n≤q)(k:vo2.ownBlock=vo'.ownBlock∨ ∀q,vo2.ownBlock=some q→m≤q)(hnm:n≤m):vo2.ownBlock=vo.ownBlock∨ ∀q,vo2.ownBlock=some q→n≤q:=by
 rcases k with k|k
 ·rw[k];exact h
 ·exact .inr fun q hq=>Nat.le_trans hnm (k q hq)
theorem vo_ne {m P:Nat}{vo vo2:Value}(h: ∀q,vo.ownBlock=some q→q≠P)(k:vo2.ownBlock=vo.ownBlock∨ ∀q,vo2.ownBlock=some q→m≤q)(hP:P<m): ∀q,vo2.ownBlock=some q→q≠P:=by
 intro q hq;rcases k with k|k
 ·exact h q (k▸hq)
 ·have:=k q hq;omega
theorem Turned.trans2 {F:Nat→Prop}{a b c:World}(h:Turned F a b)(k:Turned F b c)(_:True:=trivial):Turned F a c:=h.trans k
theorem ac_snoc (m:List Chn)(c:Chn):ac (m++[c])=ac m++[(c.k,c.r)]:=by unfold ac;rw[List.map_append];rfl
theorem ac_len (m:List Chn):(ac m).length=m.length:=List.length_map ..
theorem tellS_len (p:Pl)(v:Ev)(e:En):(tellS p v e).length≤2:=by unfold tellS;split<;>simp
theorem flat_len2 {α:Type}(f:α→List Cg)(h: ∀x,(f x).length≤2): ∀l:List α,(l.flatMap f).length≤2*l.length
 |[]=>by simp
 |x::l=>by
  rw[List.flatMap_cons,List.length_append,List.length_cons];have:=h x;have:=flat_len2 f h l;omega
theorem tellS_yes {p:Pl}{v:Ev}{e:En}(h:keepsB p (farS v.side)=true)(hm:e.met=false):tellS p v e=[(3,joinedR v.side (nullsR (colsN p v.side)) e.r),(4,joinedR v.side v.r e.r)]:=by unfold tellS;rw[if_pos (by rw[h,hm];rfl)]
theorem tellS_no {p:Pl}{v:Ev}{e:En}(h:keepsB p (farS v.side)=false∨e.met=true):tellS p v e=[(1,joinedR v.side v.r e.r)]:=by
 unfold tellS;rw[if_neg (by rcases h with h|h<;>rw[h]<;>simp)]
set_option maxHeartbeats 8000000 in
set_option maxRecDepth 10000 in
theorem scomes_any (w0:World)(g:Nat)(p:Pl)(e:Evv)(lm rm:Int)(s:Jv)(key:ByteArray)(has:Bool)(vo0:Value)(w:World)(hI:WkI w g w0.heap.size p e lm rm ⟨s,key,has,vo0,[],false⟩)(hW:WkB w0 w g)(hG:WkG s)(hz:checkP p=0)(hk3:p.kind≠3)(hs:e.side=1∨e.side=2)(ht:fitsB e.t=true)(he:e.ok w0)(hel:e.r.length≤4)(hfl: ∀x∈(s.buf (3-e.side)).bu.all,x.r.length≤4)(hc1:colsN p e.side≤4)(hc2:colsN p (3-e.side)≤4)(hm:Mx w0):
 Calls Tryz.prog 262 #[.agg #[],.pointer (some ⟨g,0,none⟩)] w fun r w'=>r= .returned (.tuple #[])∧ ∃b:Buf,b.bu=touchB (s.buf (3-e.side)).bu (if has=true then scanL (s.buf (3-e.side)).bu key.toList (spanT p.kind p.low p.high p.size e.side e.t).1 (spanT p.kind p.low p.high p.size e.side e.t).2 else[])∧ ∃(vo:Value) (m:List Chn),
  ac m=(if((if has=true then scanL (s.buf (3-e.side)).bu key.toList (spanT p.kind p.low p.high p.size e.side e.t).1 (spanT p.kind p.low p.high p.size e.side e.t).2 else[])).isEmpty=true then aloneS p e.ev else((if has=true then scanL (s.buf (3-e.side)).bu key.toList (spanT p.kind p.low p.high p.size e.side e.t).1 (spanT p.kind p.low p.high p.size e.side e.t).2 else[])).flatMap (tellS p e.ev))∧
  WkI w' g w0.heap.size p e lm rm ⟨s.put (3-e.side) b,key,has,vo,m, !((if has=true then scanL (s.buf (3-e.side)).bu key.toList (spanT p.kind p.low p.high p.size e.side e.t).1 (spanT p.kind p.low p.high p.size e.side e.t).2 else[])).isEmpty⟩∧Turned (wkF g vo0) w w':=by
 have hos:ownS e.side=e.side:=by unfold ownS;rcases hs with h|h<;>rw[h]<;>rfl
 have HOS:=Lib.hid hos;obtain⟨Ae,ce,hve,-⟩:=id he.row;have HVE:=Lib.hid hve;have HPT:=fun W (h:WkI W g w0.heap.size p e lm rm ⟨s,key,has,vo0,[],false⟩) (hmx:Mx W)=>partners_any g w0.heap.size p e lm rm ⟨s,key,has,vo0,[],false⟩ W h hG hz hk3 hs ht hmx;rw[hos]at HPT;obtain⟨F,hF⟩: ∃q,3-e.side=q:=⟨_,rfl⟩;have HFE:Hid (3-ownS e.side=F):=Lib.hid (by rw[hos];exact hF);have HFS:Hid (farS e.side=F):=Lib.hid hF;rw[hF]at HPT hfl hc2⊢;obtain⟨FB,hFB⟩: ∃b,s.buf F=b:=⟨_,rfl⟩;have hgb:=hG.buf F;have hfn:=hG.fine F;rw[hFB]at HPT hfl hgb hfn⊢;have hlen:=scan_len hgb.1 key.toList (spanT p.kind p.low p.high p.size e.side e.t).1 (spanT p.kind p.low p.high p.size e.side e.t).2;have hmem: ∀x∈scanL FB.bu key.toList (spanT p.kind p.low p.high p.size e.side e.t).1 (spanT p.kind p.low p.high p.size e.side e.t).2,x∈FB.bu.all:=fun x hx=>scan_mem hgb.1 hx;obtain⟨L,hL⟩: ∃q,scanL FB.bu key.toList (spanT p.kind p.low p.high p.size e.side e.t).1 (spanT p.kind p.low p.high p.size e.side e.t).2=q:=⟨_,rfl⟩;rw[hL]at HPT hlen hmem⊢;clear hL;have HGB0:=Lib.hid hgb.1;have HFN:=Lib.hid hfn;have HGS:=Lib.hid hG;have HPS:Hid (s.put F FB=s):=Lib.hid (by rw[←hFB];exact Jv.put_same s F);have hB1:=below_alloc w (.cells #[] 160);have HI1:=Lib.hid (hI.below hB1);have HW1:=Lib.hid (hW.more hB1);have HT01:Hid (Turned (wkF g vo0) w (w.alloc (.cells #[] 160))):=Lib.hid (turned_below hB1);have HPT1:=Lib.hid (HPT _ HI1.out (hm.below HW1.out.below));have k1:=(Blk.new w 160 #[]);have HC31:Hid (∀W Y,WkI W g w0.heap.size p e lm rm Y→W.cell? ⟨g,31,none⟩=some (.int .i64 (colsN p (ownS e.side)))):=Lib.hid fun W Y h=>h.blk.cellR 31 rfl;have HC36:Hid (∀W Y,WkI W g w0.heap.size p e lm rm Y→W.cell? ⟨g,36,none⟩=some (.int .i64 (colsN p (3-ownS e.side)))):=Lib.hid fun W Y h=>h.blk.cellR 36 rfl;have HC32:Hid (∀W Y,WkI W g w0.heap.size p e lm rm Y→W.cell? ⟨g,32,none⟩=some (.bool (keepsB p (ownS e.side)))):=Lib.hid fun W Y h=>h.blk.cellR 32 rfl;have HC37:Hid (∀W Y,WkI W g w0.heap.size p e lm rm Y→W.cell? ⟨g,37,none⟩=some (.bool (keepsB p (3-ownS e.side)))):=Lib.hid fun W Y h=>h.blk.cellR 37 rfl;have HC25:Hid (∀W Y,WkI W g w0.heap.size p e lm rm Y→W.cell? ⟨g,25,none⟩=some (.slice Ae e.r.length ce)):=Lib.hid fun W Y h=>by rw[←HVE.out];exact h.blk.cellR 25 rfl
 rw[hos]at HC31 HC32;rw[HFE.out]at HC36 HC37;obtain⟨cO,hcO⟩: ∃q,colsN p e.side=q:=⟨_,rfl⟩;obtain⟨cF,hcF⟩: ∃q,colsN p F=q:=⟨_,rfl⟩;obtain⟨kO,hkO⟩: ∃q,keepsB p e.side=q:=⟨_,rfl⟩;obtain⟨kF,hkF⟩: ∃q,keepsB p F=q:=⟨_,rfl⟩;rw[hcO]at HC31 hc1;rw[hkO]at HC32;rw[hcF]at HC36 hc2;rw[hkF]at HC37;have HCOE:=Lib.hid hcO;have HCFE:=Lib.hid hcF;have HKO:=Lib.hid hkO;have HKFE:=Lib.hid hkF;have HCO:Hid (cO≤4096):=Lib.hid (by omega);have HCF:Hid (cF≤4096):=Lib.hid (by omega);have HNO:Hid ((nullsR cO).length≤4):=Lib.hid (by rw[nullsR_len];exact hc1);have HNF:Hid ((nullsR cF).length≤4):=Lib.hid (by rw[nullsR_len];exact hc2);have HRL:Hid (e.r.length≤4):=Lib.hid hel;have HFL:=Lib.hid hfl;have HLM:=Lib.hid hmem;have HLL:=Lib.hid hlen;have HEO:=Lib.hid he;have HMW:=Lib.hid hm;obtain⟨LL,hLL⟩: ∃q,(if has=true then L else[])=q:=⟨_,rfl⟩;rw[hLL];obtain⟨AX,hAX⟩: ∃q,(if LL.isEmpty=true then aloneS p e.ev else LL.flatMap (tellS p e.ev))=q:=⟨_,rfl⟩;rw[hAX];have HAX:=Lib.hid hAX;clear hAX;have z27:=HI1.out.blk.cellR 27 rfl;obtain⟨W1,hW1⟩: ∃V,w.alloc (.cells #[] 160)=V:=⟨_,rfl⟩;rw[hW1]at HI1 HW1 HT01 HPT1 z27;have HKB:Hid (Blk W1 w.heap.size 160 #[]):=Lib.hid (by rw[←hW1];exact k1)
 have HR25A:Hid (∀V,Turned (wkF g vo0) W1 V→Sl V (.slice Ae e.r.length ce) e.r.length (rowCells e.r)):=Lib.hid (fun V h=>by
  rw[←HVE.out];exact HEO.out.row.below (HW1.out.turned HI1.out h).below)
 clear hI hW hG hz hk3 ht he hel hfl hc1 hc2 hm hB1 hve HPT hgb hfn hlen hmem hcO hcF hkO hkF k1;cases has with
 |false=>
  obtain rfl:LL=[]:=by rw[←hLL];rfl
  have HT1:Hid (Turned (wkF g vo0) W1 W1):=Lib.hid (Turned.refl _ _);have HV1:Hid (vo0.ownBlock=vo0.ownBlock∨ ∀q,vo0.ownBlock=some q→W1.heap.size≤q):=Lib.hid (.inl rfl);have HR25:=HR25A;go_enter Tryz.func262,Tryz.ntmps262
  go_upto_region 1 with fail
  first|rw[hW1]|skip
  clear hW1
  go_upto_region 12 with fail
  have z39:=HI1.out.blk.cellR 39 rfl;have z32:=HC32.out _ _ HI1.out;cases kO
  ·go_wp2
   first|go_end0|((try simp only[Exit.inBlock,Exit.then]);refine bodyPost_ret (results_none rfl _ _ _) rfl ?_)
   refine⟨rfl,FB,rfl,vo0,([]:List Chn),?_,by rw[HPS.out];exact HI1.out,HT01.out⟩;rw[show ac []=[]from rfl,←HAX.out];show[]=aloneS p e.ev;unfold aloneS;rw[show keepsB p e.ev.side=false from HKO.out];rfl
  ·have hd1:Below W1.heap.size W1 W1.drew:=(Below.refl _ W1).drew
   go_upto_region 13 with fail
   refine tr (S:=(fun w'=>w'.cell? ⟨g,36,none⟩=some (.int .i64 cF)∧w'.cell? ⟨g,25,none⟩=some (.slice Ae e.r.length ce))) (And.intro (HC36.out _ _ (HI1.out.below hd1)) (HC25.out _ _ (HI1.out.below hd1))) (fun hHeld=> ?_);refine tk 0 ?_;refine tk 1 ?_;refine tk 2 ?_;refine tk 3 ?_;refine tk 4 ?_;refine tk 5 ?_;refine tk 6 ?_;refine tk 7 ?_;refine tk 8 ?_;refine tk 9 ?_;refine tk 10 ?_;refine tc 11 ?_;intro K hK;go_simp;refine Calls.mono (by with_reducible exact none_any cF _ HCF.out) ?_;rintro r y1 ⟨vn,rfl,hon,hb1⟩;obtain⟨An,nn,cn,hvn,hnn⟩:=own_sliceN hon;subst hvn;have hy1:=below_trans hd1 hb1;have HON:=Lib.hid (Sl.of_own hon);clear hon hnn hb1
   go_wp2_with fail
   refine hK.out _ _ (And.intro (HC36.out _ _ (HI1.out.below hy1)) (HC25.out _ _ (HI1.out.below hy1))) (fun hHeld11=> ?_);clear hK K;refine tc 12 ?_;intro K hK;go_simp;refine Calls.mono (by with_reducible exact say_any g w0.heap.size p e lm rm ⟨s,key,false,vo0,([]:List Chn),false⟩ 1 (.slice Ae e.r.length ce) (.slice An nn cn) e.r (nullsR cF) _ (HI1.out.below hy1) (HR25.out _ (HT1.out.trans (turned_below hy1))) HON.out (by have h1:=HRL.out;have h2:=HNF.out;omega) (by show([]:List Chn).length≤1000000;decide)) ?_;rintro r W2 ⟨rfl,vo2,vr2,hI2,hv2,ht2⟩;have HI2:=Lib.hid hI2;have HT2:Hid (Turned (wkF g vo0) W1 W2):=Lib.hid ((HT1.out.trans (turned_below hy1)).transN ht2 (wkF_back (by first|exact HV1.out|exact .inl rfl)));have HV2:=Lib.hid (vo_step (by first|exact HV1.out|exact .inl rfl) hv2 (Nat.le_trans HT1.out.size hy1.size));clear hI2 hv2 ht2
   go_wp2_with fail
   refine hK.out _ _ (And.intro (HC36.out _ _ HI2.out) (HC25.out _ _ HI2.out)) (fun hHeld12=> ?_);clear hK K;refine td ?_;go_wp2
   first|go_end0|((try simp only[Exit.inBlock,Exit.then]);refine bodyPost_ret (results_none rfl _ _ _) rfl ?_)
   refine⟨rfl,FB,rfl,vo2,([]:List Chn)++[⟨vr2,joinedR (ownS e.side) e.r (nullsR cF),1⟩],?_,by rw[HPS.out];exact HI2.out,HT01.out.trans2 HT2.out⟩;rw[←HAX.out];show ac (([]:List Chn)++_)=aloneS p e.ev;unfold aloneS;rw[show keepsB p e.ev.side=true from HKO.out,if_pos rfl,ac_snoc,show ac []=[]from rfl,HOS.out];show _=[((1:Int),joinedR e.side e.r (nullsR (colsN p (farS e.side))))];rw[HFS.out,HCFE.out];rfl
 |true=>
  obtain rfl:L=LL:=by rw[←hLL];rfl
  go_enter Tryz.func262,Tryz.ntmps262
  go_upto_region 1 with fail
  first|rw[hW1]|skip
  clear hW1
  go_wp2_with fail
  refine Calls.mono (by with_reducible exact HPT1.out) ?_;rintro r W4 ⟨v,l,rfl,hOE,hens,hb4⟩;obtain⟨Av,nv,cv,hv,hnv⟩:=own_sliceN hOE.own;subst hv;subst hnv;have HI4:=Lib.hid (HI1.out.below hb4);have HW4:=Lib.hid (HW1.out.more hb4);have HTW:Hid (Turned (wkF g vo0) w W4):=Lib.hid (HT01.out.trans (turned_below hb4));have HR25:Hid (∀V,Turned (wkF g vo0) W4 V→Sl V (.slice Ae e.r.length ce) e.r.length (rowCells e.r)):=Lib.hid (fun V h=>HR25A.out V ((turned_below hb4).trans h));have HMX:Hid (∀V,Turned (wkF g vo0) W4 V→Mx V):=Lib.hid (fun V h=>HMW.out.below (HW4.out.turned HI4.out h).below)
  have HOE:Hid (∀V,Turned (wkF g vo0) W4 V→OwnE V W1.heap.size (.slice Av l.length cv) l):=Lib.hid (fun V h=>hOE.turned h (fun k hk hf=>by
   have h1:=(hOE.range hk).1;rcases hf with hf|hf
   ·have:=HI1.out.blk.lt;omega
   ·have:=own_lt HI1.out.out.own k hf;omega))
  have hll:l.length≤4096:=by rw[←ens_len l,hens];exact HLL.out
  have HENS:=Lib.hid hens;have HMEM:Hid (∀x∈l,x.e∈FB.bu.all):=Lib.hid (fun x hx=>HLM.out x.e (by rw[←HENS.out];exact List.mem_map.2 ⟨x,hx,rfl⟩));clear hOE hens hb4 HPT1
  go_wp2_with fail
  go_loopw[5,14] (fun _ iv wr=> ∃(k:Nat) (b:Buf) (vo:Value) (m:List Chn) (q:Bool),k≤l.length∧iv= .int .i64 k∧Hid (WkI wr g w0.heap.size p e lm rm ⟨s.put F b,key,true,vo,m,q⟩)∧Hid (b.bu=touchB FB.bu ((ens l).take k))∧Hid (ac m=((ens l).take k).flatMap (tellS p e.ev))∧Hid (q=decide (0<k))∧Hid (vo.ownBlock=vo0.ownBlock∨ ∀q,vo.ownBlock=some q→W4.heap.size≤q)∧Hid (Turned (wkF g vo0) W4 wr)) (fun _ iv _=>l.length-(intOf iv).toNat)
  case atStart=>exact⟨0,FB,vo0,[],false,by omega,rfl,Lib.hid (by rw[HPS.out];exact HI4.out),Lib.hid rfl,Lib.hid rfl,Lib.hid rfl,Lib.hid (.inl rfl),Lib.hid (Turned.refl _ _)⟩
  case round=>
   rename World=>wr
   obtain⟨k,b,vo,m,q,hk,rfl,HI3,HBB,HAC,HQQ,HV3,HT3⟩:=hrel;have HGB:Hid (WkG (s.put F b)):=Lib.hid (HGS.out.put F (by rw[HBB.out];exact touch_good _ HGB0.out) (by rw[HBB.out];exact touch_fine _ HFN.out))
   have HMLE:Hid (m.length≤2*4096):=Lib.hid (by
    have h1:=flat_len2 (tellS p e.ev) (tellS_len p e.ev) ((ens l).take k);rw[←HAC.out,ac_len,List.length_take]at h1;omega)
   by_cases hlt:k<l.length
   ·have hx:=List.getElem?_eq_getElem (l:=l) hlt
    generalize l[k]=x at hx;have hxm:=List.mem_of_getElem? hx;have HXE:Hid ((ens l)[k]?=some x.e):=Lib.hid (ens_at hx);have HXM:=Lib.hid (HMEM.out x hxm);have HAT:Hid (atS b.bu x.e.key x.e.t x.e.s=0):=Lib.hid (by rw[HBB.out];exact touch_at HGB0.out HXM.out _);have HXL:Hid (x.e.r.length≤4):=Lib.hid (HFL.out _ HXM.out);have HXR0:Hid (∀V,Turned (wkF g vo0) W4 V→Sl V x.v x.e.r.length (rowCells x.e.r)):=Lib.hid (fun V h=>(HOE.out V h).rows x hxm);obtain⟨Ax,cx,hvx,-⟩:=id (HXR0.out _ HT3.out);have HVX:=Lib.hid hvx;have HXR:Hid (∀V,Turned (wkF g vo0) W4 V→Sl V (.slice Ax x.e.r.length cx) x.e.r.length (rowCells x.e.r)):=Lib.hid (fun V h=>by rw[←HVX.out];exact HXR0.out V h);have HXRV:Hid (∀V,Turned (wkF g vo0) W4 V→Sl V x.v x.e.r.length (rowCells x.e.r)):=HXR0;obtain⟨bb,off,hA,-,hcs⟩:=ent_at (Sl.of_own (HOE.out wr HT3.out).own) rfl hx;subst hA;have hc:=hcs wr (Below.refl _ wr);rw[hvx]at hc;obtain⟨d0,d1,d2,d3,d4⟩:=hc;have hf39:=HI3.out.blk.free 39;have hr39:=HI3.out.blk.cellR 39 rfl;have hf39b:=(HI3.out.below (below_alloc wr (.cells #[.string (str x.e.key),.int .i64 x.e.t,.int .i64 x.e.s,.slice Ax x.e.r.length cx,.bool x.e.met] 63))).blk.free 39;have hr39b:=(HI3.out.below (below_alloc wr (.cells #[.string (str x.e.key),.int .i64 x.e.t,.int .i64 x.e.s,.slice Ax x.e.r.length cx,.bool x.e.met] 63))).blk.cellR 39 rfl;have HI5:=Lib.hid ((HI3.out.below (below_alloc wr (.cells #[.string (str x.e.key),.int .i64 x.e.t,.int .i64 x.e.s,.slice Ax x.e.r.length cx,.bool x.e.met] 63))).set (Y:=⟨s.put F b,key,true,vo,m,true⟩) 39 (.bool true) rfl rfl rfl rfl rfl);have HPG:Hid (wr.heap.size≠g):=Lib.hid (by have:=HI3.out.blk.lt;omega);have HE5:=Lib.hid ((Blk.new wr 63 #[.string (str x.e.key),.int .i64 x.e.t,.int .i64 x.e.s,.slice Ax x.e.r.length cx,.bool x.e.met]).far (p:=⟨g,39,none⟩) HPG.out (.bool true));have HT5:Hid (Turned (wkF g vo0) W4 ((wr.alloc (.cells #[.string (str x.e.key),.int .i64 x.e.t,.int .i64 x.e.s,.slice Ax x.e.r.length cx,.bool x.e.met] 63)).setCell ⟨g,39,none⟩ (.bool true))):=Lib.hid (HT3.out.trans ((turned_below (below_alloc wr _)).trans ((turned_set _ ⟨g,39,none⟩ (.bool true)).imp fun k _ e=> .inl e)));have HV5:=HV3;have HPV5:Hid (∀q,vo.ownBlock=some q→q≠wr.heap.size):=Lib.hid (fun q hq=>by have:=own_lt HI3.out.out.own q hq;omega);obtain⟨P,hP⟩: ∃q,wr.heap.size=q:=⟨_,rfl⟩;rw[hP]at HE5 HPG HPV5;have HPP:=Lib.hid hP;obtain⟨W5,hW5⟩: ∃V,(wr.alloc (.cells #[.string (str x.e.key),.int .i64 x.e.t,.int .i64 x.e.s,.slice Ax x.e.r.length cx,.bool x.e.met] 63)).setCell ⟨g,39,none⟩ (.bool true)=V:=⟨_,rfl⟩;rw[hW5]at HI5 HE5 HT5;have k0:(0:Int)≤(k:Int):=by omega
    have k1:(k:Int)<(l.length:Int):=by omega
    have z37:=HC37.out _ _ HI5.out;have e4:=HE5.out.cellR 4 rfl;clear hx hxm hvx hcs hP
    go_upto_region 6 with fail
    first|rw[hW5,HPP.out]|rw[hW5]|rw[HPP.out]|skip
    clear hW5 d0 d1 d2 d3 d4 hf39 hr39 hf39b hr39b;cases kF with
    |false=>
     have HTL:Hid (tellS p e.ev x.e=[(1,joinedR e.side e.r x.e.r)]):=Lib.hid (tellS_no (.inl (show keepsB p (farS e.side)=_ by rw[HFS.out];exact HKFE.out)));have hd5:Below W5.heap.size W5 W5.drew:=(Below.refl _ W5).drew
     go_upto_region 9 with fail
     refine tr (S:=(fun w'=>w'.cell? ⟨g,25,none⟩=some (.slice Ae e.r.length ce)∧w'.cell? ⟨P,3,none⟩=some (.slice Ax x.e.r.length cx))) (And.intro (HC25.out _ _ (HI5.out.below hd5)) ((HE5.out.below hd5).cellR 3 rfl)) (fun hHeld=> ?_);refine tk 0 ?_;refine tk 1 ?_;refine tk 2 ?_;refine tk 3 ?_;refine tk 4 ?_;refine tk 5 ?_;refine tk 6 ?_;refine tk 7 ?_;refine tc 8 ?_;intro K hK;go_simp;refine Calls.mono (by with_reducible exact say_any g w0.heap.size p e lm rm ⟨s.put F b,key,true,vo,m,true⟩ 1 (.slice Ae e.r.length ce) (.slice Ax x.e.r.length cx) e.r x.e.r _ (HI5.out.below hd5) (HR25.out _ (HT5.out.trans (turned_below hd5))) (HXR.out _ (HT5.out.trans (turned_below hd5))) (by have h1:=HRL.out;have h2:=HXL.out;omega) (by have h0:=HMLE.out;simp only[List.length_append,List.length_cons,List.length_nil];omega)) ?_;rintro r W6 ⟨rfl,vo6,vr6,hI6,hv6,ht6⟩;have HI6:=Lib.hid hI6;have HT6:Hid (Turned (wkF g vo0) W4 W6):=Lib.hid ((HT5.out.trans (turned_below hd5)).transN ht6 (wkF_back (by first|exact HV5.out|exact .inl rfl)));have HV6:=Lib.hid (vo_step (by first|exact HV5.out|exact .inl rfl) hv6 (Nat.le_trans HT5.out.size hd5.size));have HE6:=Lib.hid (blk_turned (HE5.out.below hd5) ht6 (by rintro(h|h);exact HPG.out h;exact HPV5.out _ h rfl));have HPV6:=Lib.hid (vo_ne HPV5.out hv6 (HE5.out.below hd5).lt);clear hI6 hv6 ht6
     go_wp2_with fail
     refine hK.out _ _ (And.intro (HC25.out _ _ HI6.out) (HE6.out.cellR 3 rfl)) (fun hHeld8=> ?_);clear hK K;refine td ?_
     have HTC:Hid (Calls Tryz.prog 255 #[.pointer (some ⟨g,0,none⟩),.agg #[.string (str x.e.key),.int .i64 x.e.t,.int .i64 x.e.s,.slice Ax x.e.r.length cx,.bool x.e.met]] W6 fun r w'=>r= .returned (.tuple #[])∧ ∃b':Buf,b'.bu=meetB b.bu x.e.key x.e.t x.e.s∧WkI w' g w0.heap.size p e lm rm ⟨s.put F b',key,true,vo6,m++[⟨vr6,joinedR (ownS e.side) e.r x.e.r,1⟩],true⟩∧Turned (fun k=>k=g) W6 w'):=Lib.hid (by
      have h1:=touch_any g w0.heap.size p e lm rm ⟨s.put F b,key,true,vo6,m++[⟨vr6,joinedR (ownS e.side) e.r x.e.r,1⟩],true⟩ x W6 HI6.out HGB.out (HXRV.out _ HT6.out) (by rw[HFE.out,Jv.put_buf];exact HAT.out) (HMX.out _ HT6.out);rw[HFE.out,Jv.put_buf]at h1;simp only[Jv.put_twice]at h1;unfold Ent.agg at h1;rw[HVX.out]at h1;exact h1)
     have p0:=HE6.out.cellR 0 rfl;have p1:=HE6.out.cellR 1 rfl;have p2:=HE6.out.cellR 2 rfl;have p3:=HE6.out.cellR 3 rfl;have p4:=HE6.out.cellR 4 rfl
     go_wp2_with fail
     refine Calls.mono (by with_reducible exact HTC.out) ?_;rintro r W9 ⟨rfl,b9,hb9,hI9,ht9⟩;have HI9:=Lib.hid hI9;have HT9:Hid (Turned (wkF g vo0) W4 W9):=Lib.hid (HT6.out.trans (ht9.imp fun k _ e=> .inl e));have HB9:Hid (b9.bu=touchB FB.bu ((ens l).take (k+1))):=Lib.hid (by rw[hb9,HBB.out,take_snoc HXE.out,touch_snoc])
     have HA9:Hid (ac (m++[⟨vr6,joinedR (ownS e.side) e.r x.e.r,1⟩])=((ens l).take (k+1)).flatMap (tellS p e.ev)):=Lib.hid (by
      rw[take_snoc HXE.out,List.flatMap_append,←HAC.out,show[x.e].flatMap (tellS p e.ev)=tellS p e.ev x.e from by simp,HTL.out];simp[ac,HOS.out])
     have HQ9:Hid (true=decide (0<k+1)):=Lib.hid (decide_eq_true (by omega)).symm;have HV9:Hid ((vo6).ownBlock=vo0.ownBlock∨ ∀q,(vo6).ownBlock=some q→W4.heap.size≤q):=HV6;clear hb9 hI9 ht9 HTC p0 p1 p2 p3 p4;go_wp2;go_roundw
     case rel=>
      first
       |exact⟨k+1,b9,_,_,true,by omega,by go_num,HI9,HB9,HA9,HQ9,HV9,HT9⟩
       |((repeat apply Exists.intro);exact⟨⟨k+1,b9,_,_,true,by omega,by go_num,HI9,HB9,HA9,HQ9,HV9,HT9⟩,rfl⟩)
     case measure=>simp[intOf];omega
    |true=>
     obtain⟨mq,hmq⟩: ∃q,x.e.met=q:=⟨_,rfl⟩;have HMQ:=Lib.hid hmq;rw[hmq]at e4;clear hmq;cases mq with
     |true=>
      have HTL:Hid (tellS p e.ev x.e=[(1,joinedR e.side e.r x.e.r)]):=Lib.hid (tellS_no (.inr HMQ.out));have hd5:Below W5.heap.size W5 W5.drew:=(Below.refl _ W5).drew
      go_upto_region 9 with fail
      refine tr (S:=(fun w'=>w'.cell? ⟨g,25,none⟩=some (.slice Ae e.r.length ce)∧w'.cell? ⟨P,3,none⟩=some (.slice Ax x.e.r.length cx))) (And.intro (HC25.out _ _ (HI5.out.below hd5)) ((HE5.out.below hd5).cellR 3 rfl)) (fun hHeld=> ?_);refine tk 0 ?_;refine tk 1 ?_;refine tk 2 ?_;refine tk 3 ?_;refine tk 4 ?_;refine tk 5 ?_;refine tk 6 ?_;refine tk 7 ?_;refine tc 8 ?_;intro K hK;go_simp;refine Calls.mono (by with_reducible exact say_any g w0.heap.size p e lm rm ⟨s.put F b,key,true,vo,m,true⟩ 1 (.slice Ae e.r.length ce) (.slice Ax x.e.r.length cx) e.r x.e.r _ (HI5.out.below hd5) (HR25.out _ (HT5.out.trans (turned_below hd5))) (HXR.out _ (HT5.out.trans (turned_below hd5))) (by have h1:=HRL.out;have h2:=HXL.out;omega) (by have h0:=HMLE.out;simp only[List.length_append,List.length_cons,List.length_nil];omega)) ?_;rintro r W6 ⟨rfl,vo6,vr6,hI6,hv6,ht6⟩;have HI6:=Lib.hid hI6;have HT6:Hid (Turned (wkF g vo0) W4 W6):=Lib.hid ((HT5.out.trans (turned_below hd5)).transN ht6 (wkF_back (by first|exact HV5.out|exact .inl rfl)));have HV6:=Lib.hid (vo_step (by first|exact HV5.out|exact .inl rfl) hv6 (Nat.le_trans HT5.out.size hd5.size));have HE6:=Lib.hid (blk_turned (HE5.out.below hd5) ht6 (by rintro(h|h);exact HPG.out h;exact HPV5.out _ h rfl));have HPV6:=Lib.hid (vo_ne HPV5.out hv6 (HE5.out.below hd5).lt);clear hI6 hv6 ht6
      go_wp2_with fail
      refine hK.out _ _ (And.intro (HC25.out _ _ HI6.out) (HE6.out.cellR 3 rfl)) (fun hHeld8=> ?_);clear hK K;refine td ?_
      have HTC:Hid (Calls Tryz.prog 255 #[.pointer (some ⟨g,0,none⟩),.agg #[.string (str x.e.key),.int .i64 x.e.t,.int .i64 x.e.s,.slice Ax x.e.r.length cx,.bool x.e.met]] W6 fun r w'=>r= .returned (.tuple #[])∧ ∃b':Buf,b'.bu=meetB b.bu x.e.key x.e.t x.e.s∧WkI w' g w0.heap.size p e lm rm ⟨s.put F b',key,true,vo6,m++[⟨vr6,joinedR (ownS e.side) e.r x.e.r,1⟩],true⟩∧Turned (fun k=>k=g) W6 w'):=Lib.hid (by
       have h1:=touch_any g w0.heap.size p e lm rm ⟨s.put F b,key,true,vo6,m++[⟨vr6,joinedR (ownS e.side) e.r x.e.r,1⟩],true⟩ x W6 HI6.out HGB.out (HXRV.out _ HT6.out) (by rw[HFE.out,Jv.put_buf];exact HAT.out) (HMX.out _ HT6.out);rw[HFE.out,Jv.put_buf]at h1;simp only[Jv.put_twice]at h1;unfold Ent.agg at h1;rw[HVX.out]at h1;exact h1)
      have p0:=HE6.out.cellR 0 rfl;have p1:=HE6.out.cellR 1 rfl;have p2:=HE6.out.cellR 2 rfl;have p3:=HE6.out.cellR 3 rfl;have p4:=HE6.out.cellR 4 rfl
      go_wp2_with fail
      refine Calls.mono (by with_reducible exact HTC.out) ?_;rintro r W9 ⟨rfl,b9,hb9,hI9,ht9⟩;have HI9:=Lib.hid hI9;have HT9:Hid (Turned (wkF g vo0) W4 W9):=Lib.hid (HT6.out.trans (ht9.imp fun k _ e=> .inl e));have HB9:Hid (b9.bu=touchB FB.bu ((ens l).take (k+1))):=Lib.hid (by rw[hb9,HBB.out,take_snoc HXE.out,touch_snoc])
      have HA9:Hid (ac (m++[⟨vr6,joinedR (ownS e.side) e.r x.e.r,1⟩])=((ens l).take (k+1)).flatMap (tellS p e.ev)):=Lib.hid (by
       rw[take_snoc HXE.out,List.flatMap_append,←HAC.out,show[x.e].flatMap (tellS p e.ev)=tellS p e.ev x.e from by simp,HTL.out];simp[ac,HOS.out])
      have HQ9:Hid (true=decide (0<k+1)):=Lib.hid (decide_eq_true (by omega)).symm;have HV9:Hid ((vo6).ownBlock=vo0.ownBlock∨ ∀q,(vo6).ownBlock=some q→W4.heap.size≤q):=HV6;clear hb9 hI9 ht9 HTC p0 p1 p2 p3 p4;go_wp2;go_roundw
      case rel=>
       first
        |exact⟨k+1,b9,_,_,true,by omega,by go_num,HI9,HB9,HA9,HQ9,HV9,HT9⟩
        |((repeat apply Exists.intro);exact⟨⟨k+1,b9,_,_,true,by omega,by go_num,HI9,HB9,HA9,HQ9,HV9,HT9⟩,rfl⟩)
      case measure=>simp[intOf];omega
     |false=>
      have HTL:Hid (tellS p e.ev x.e=[(3,joinedR e.side (nullsR cO) x.e.r),(4,joinedR e.side e.r x.e.r)]):=Lib.hid (by
       have:=tellS_yes (p:=p) (v:=e.ev) (e:=x.e) (show keepsB p (farS e.side)=_ by rw[HFS.out];exact HKFE.out) HMQ.out;rw[show colsN p e.ev.side=cO from HCOE.out]at this;exact this)
      have hd5:Below W5.heap.size W5 W5.drew:=(Below.refl _ W5).drew
      go_upto_region 7 with fail
      refine tr (S:=(fun w'=>w'.cell? ⟨g,31,none⟩=some (.int .i64 cO)∧w'.cell? ⟨P,3,none⟩=some (.slice Ax x.e.r.length cx))) (And.intro (HC31.out _ _ (HI5.out.below hd5)) ((HE5.out.below hd5).cellR 3 rfl)) (fun hHeld=> ?_);refine tk 0 ?_;refine tk 1 ?_;refine tk 2 ?_;refine tk 3 ?_;refine tk 4 ?_;refine tk 5 ?_;refine tk 7 ?_;refine tk 8 ?_;refine tc 6 ?_;intro K hK;go_simp;refine Calls.mono (by with_reducible exact none_any cO _ HCO.out) ?_;rintro r y5 ⟨vn,rfl,hon,hb5⟩;obtain⟨An,nn,cn,hvn,hnn⟩:=own_sliceN hon;subst hvn;have hy5:=below_trans hd5 hb5;have HON:=Lib.hid (Sl.of_own hon);clear hon hnn hb5
      go_wp2_with fail
      refine hK.out _ _ (And.intro (HC31.out _ _ (HI5.out.below hy5)) ((HE5.out.below hy5).cellR 3 rfl)) (fun hHeld6=> ?_);clear hK K;refine tc 9 ?_;intro K hK;go_simp;refine Calls.mono (by with_reducible exact say_any g w0.heap.size p e lm rm ⟨s.put F b,key,true,vo,m,true⟩ 3 (.slice An nn cn) (.slice Ax x.e.r.length cx) (nullsR cO) x.e.r _ (HI5.out.below hy5) HON.out (HXR.out _ (HT5.out.trans (turned_below hy5))) (by have h1:=HNO.out;have h2:=HXL.out;omega) (by have h0:=HMLE.out;simp only[List.length_append,List.length_cons,List.length_nil];omega)) ?_;rintro r W6 ⟨rfl,vo6,vr6,hI6,hv6,ht6⟩;have HI6:=Lib.hid hI6;have HT6:Hid (Turned (wkF g vo0) W4 W6):=Lib.hid ((HT5.out.trans (turned_below hy5)).transN ht6 (wkF_back (by first|exact HV5.out|exact .inl rfl)));have HV6:=Lib.hid (vo_step (by first|exact HV5.out|exact .inl rfl) hv6 (Nat.le_trans HT5.out.size hy5.size));have HE6:=Lib.hid (blk_turned (HE5.out.below hy5) ht6 (by rintro(h|h);exact HPG.out h;exact HPV5.out _ h rfl));have HPV6:=Lib.hid (vo_ne HPV5.out hv6 (HE5.out.below hy5).lt);clear hI6 hv6 ht6
      go_wp2_with fail
      refine hK.out _ _ (And.intro (HC31.out _ _ HI6.out) (HE6.out.cellR 3 rfl)) (fun hHeld9=> ?_);clear hK K;refine td ?_;have hd6:Below W6.heap.size W6 W6.drew:=(Below.refl _ W6).drew
      go_upto_region 8 with fail
      refine tr (S:=(fun w'=>w'.cell? ⟨g,25,none⟩=some (.slice Ae e.r.length ce)∧w'.cell? ⟨P,3,none⟩=some (.slice Ax x.e.r.length cx))) (And.intro (HC25.out _ _ (HI6.out.below hd6)) ((HE6.out.below hd6).cellR 3 rfl)) (fun hHeld=> ?_);refine tk 0 ?_;refine tk 1 ?_;refine tk 2 ?_;refine tk 3 ?_;refine tk 4 ?_;refine tk 5 ?_;refine tk 6 ?_;refine tk 7 ?_;refine tc 8 ?_;intro K hK;go_simp;refine Calls.mono (by with_reducible exact say_any g w0.heap.size p e lm rm ⟨s.put F b,key,true,vo6,m++[⟨vr6,joinedR (ownS e.side) (nullsR cO) x.e.r,3⟩],true⟩ 4 (.slice Ae e.r.length ce) (.slice Ax x.e.r.length cx) e.r x.e.r _ (HI6.out.below hd6) (HR25.out _ (HT6.out.trans (turned_below hd6))) (HXR.out _ (HT6.out.trans (turned_below hd6))) (by have h1:=HRL.out;have h2:=HXL.out;omega) (by have h0:=HMLE.out;simp only[List.length_append,List.length_cons,List.length_nil];omega)) ?_;rintro r W7 ⟨rfl,vo7,vr7,hI7,hv7,ht7⟩;have HI7:=Lib.hid hI7;have HT7:Hid (Turned (wkF g vo0) W4 W7):=Lib.hid ((HT6.out.trans (turned_below hd6)).transN ht7 (wkF_back (by first|exact HV6.out|exact .inl rfl)));have HV7:=Lib.hid (vo_step (by first|exact HV6.out|exact .inl rfl) hv7 (Nat.le_trans HT6.out.size hd6.size));have HE7:=Lib.hid (blk_turned (HE6.out.below hd6) ht7 (by rintro(h|h);exact HPG.out h;exact HPV6.out _ h rfl));have HPV7:=Lib.hid (vo_ne HPV6.out hv7 (HE6.out.below hd6).lt);clear hI7 hv7 ht7
      go_wp2_with fail
      refine hK.out _ _ (And.intro (HC25.out _ _ HI7.out) (HE7.out.cellR 3 rfl)) (fun hHeld8=> ?_);clear hK K;refine td ?_
      have HTC:Hid (Calls Tryz.prog 255 #[.pointer (some ⟨g,0,none⟩),.agg #[.string (str x.e.key),.int .i64 x.e.t,.int .i64 x.e.s,.slice Ax x.e.r.length cx,.bool x.e.met]] W7 fun r w'=>r= .returned (.tuple #[])∧ ∃b':Buf,b'.bu=meetB b.bu x.e.key x.e.t x.e.s∧WkI w' g w0.heap.size p e lm rm ⟨s.put F b',key,true,vo7,m++[⟨vr6,joinedR (ownS e.side) (nullsR cO) x.e.r,3⟩]++[⟨vr7,joinedR (ownS e.side) e.r x.e.r,4⟩],true⟩∧Turned (fun k=>k=g) W7 w'):=Lib.hid (by
       have h1:=touch_any g w0.heap.size p e lm rm ⟨s.put F b,key,true,vo7,m++[⟨vr6,joinedR (ownS e.side) (nullsR cO) x.e.r,3⟩]++[⟨vr7,joinedR (ownS e.side) e.r x.e.r,4⟩],true⟩ x W7 HI7.out HGB.out (HXRV.out _ HT7.out) (by rw[HFE.out,Jv.put_buf];exact HAT.out) (HMX.out _ HT7.out);rw[HFE.out,Jv.put_buf]at h1;simp only[Jv.put_twice]at h1;unfold Ent.agg at h1;rw[HVX.out]at h1;exact h1)
      have p0:=HE7.out.cellR 0 rfl;have p1:=HE7.out.cellR 1 rfl;have p2:=HE7.out.cellR 2 rfl;have p3:=HE7.out.cellR 3 rfl;have p4:=HE7.out.cellR 4 rfl
      go_wp2_with fail
      refine Calls.mono (by with_reducible exact HTC.out) ?_;rintro r W9 ⟨rfl,b9,hb9,hI9,ht9⟩;have HI9:=Lib.hid hI9;have HT9:Hid (Turned (wkF g vo0) W4 W9):=Lib.hid (HT7.out.trans (ht9.imp fun k _ e=> .inl e));have HB9:Hid (b9.bu=touchB FB.bu ((ens l).take (k+1))):=Lib.hid (by rw[hb9,HBB.out,take_snoc HXE.out,touch_snoc])
      have HA9:Hid (ac (m++[⟨vr6,joinedR (ownS e.side) (nullsR cO) x.e.r,3⟩]++[⟨vr7,joinedR (ownS e.side) e.r x.e.r,4⟩])=((ens l).take (k+1)).flatMap (tellS p e.ev)):=Lib.hid (by
       rw[take_snoc HXE.out,List.flatMap_append,←HAC.out,show[x.e].flatMap (tellS p e.ev)=tellS p e.ev x.e from by simp,HTL.out];simp[ac,HOS.out])
      have HQ9:Hid (true=decide (0<k+1)):=Lib.hid (decide_eq_true (by omega)).symm;have HV9:Hid ((vo7).ownBlock=vo0.ownBlock∨ ∀q,(vo7).ownBlock=some q→W4.heap.size≤q):=HV7;clear hb9 hI9 ht9 HTC p0 p1 p2 p3 p4;go_wp2;go_roundw
      case rel=>
       first
        |exact⟨k+1,b9,_,_,true,by omega,by go_num,HI9,HB9,HA9,HQ9,HV9,HT9⟩
        |((repeat apply Exists.intro);exact⟨⟨k+1,b9,_,_,true,by omega,by go_num,HI9,HB9,HA9,HQ9,HV9,HT9⟩,rfl⟩)
      case measure=>simp[intOf];omega
   ·obtain rfl:k=l.length:=by omega
    have hge: ¬(l.length:Int)<(l.length:Int):=by omega
    have HTK:Hid ((ens l).take l.length=L):=Lib.hid (by rw[List.take_of_length_le (by rw[ens_len];exact Nat.le_refl _)];exact HENS.out);have HTW3:Hid (Turned (wkF g vo0) w wr):=Lib.hid (HTW.out.trans HT3.out);by_cases hne:l.length=0
    ·have hLn:L=[]:=by rw[←HENS.out,List.length_eq_zero_iff.1 hne];rfl
     have hqf:q=false:=by rw[HQQ.out,hne];rfl
     subst hLn;subst hqf;have HMN:Hid (ac m=[]):=Lib.hid (by rw[HAC.out,HTK.out];rfl);have HBN:Hid (b.bu=touchB FB.bu []):=Lib.hid (by rw[HBB.out,HTK.out]);obtain⟨W13,rfl⟩: ∃V,V=wr:=⟨_,rfl⟩;have HI13:=HI3;have HT13:=HT3;have HV13:=HV3
     go_upto_region 12 with fail
     have z39:=HI13.out.blk.cellR 39 rfl;have z32:=HC32.out _ _ HI13.out;cases kO
     ·go_wp2
      first|go_end0|((try simp only[Exit.inBlock,Exit.then]);refine bodyPost_ret (results_none rfl _ _ _) rfl ?_)
      refine⟨rfl,b,HBN.out,vo,m,?_,by exact HI13.out,HTW3.out⟩;rw[HMN.out,←HAX.out];show[]=aloneS p e.ev;unfold aloneS;rw[show keepsB p e.ev.side=false from HKO.out];rfl
     ·have hd13:Below W13.heap.size W13 W13.drew:=(Below.refl _ W13).drew
      go_upto_region 13 with fail
      refine tr (S:=(fun w'=>w'.cell? ⟨g,36,none⟩=some (.int .i64 cF)∧w'.cell? ⟨g,25,none⟩=some (.slice Ae e.r.length ce))) (And.intro (HC36.out _ _ (HI13.out.below hd13)) (HC25.out _ _ (HI13.out.below hd13))) (fun hHeld=> ?_);refine tk 0 ?_;refine tk 1 ?_;refine tk 2 ?_;refine tk 3 ?_;refine tk 4 ?_;refine tk 5 ?_;refine tk 6 ?_;refine tk 7 ?_;refine tk 8 ?_;refine tk 9 ?_;refine tk 10 ?_;refine tc 11 ?_;intro K hK;go_simp;refine Calls.mono (by with_reducible exact none_any cF _ HCF.out) ?_;rintro r y13 ⟨vn,rfl,hon,hb13⟩;obtain⟨An,nn,cn,hvn,hnn⟩:=own_sliceN hon;subst hvn;have hy13:=below_trans hd13 hb13;have HON:=Lib.hid (Sl.of_own hon);clear hon hnn hb13
      go_wp2_with fail
      refine hK.out _ _ (And.intro (HC36.out _ _ (HI13.out.below hy13)) (HC25.out _ _ (HI13.out.below hy13))) (fun hHeld11=> ?_);clear hK K;refine tc 12 ?_;intro K hK;go_simp;refine Calls.mono (by with_reducible exact say_any g w0.heap.size p e lm rm ⟨s.put F b,key,true,vo,m,false⟩ 1 (.slice Ae e.r.length ce) (.slice An nn cn) e.r (nullsR cF) _ (HI13.out.below hy13) (HR25.out _ (HT13.out.trans (turned_below hy13))) HON.out (by have h1:=HRL.out;have h2:=HNF.out;omega) (by have h0:=HMLE.out;simp only[List.length_append,List.length_cons,List.length_nil];omega)) ?_;rintro r W14 ⟨rfl,vo14,vr14,hI14,hv14,ht14⟩;have HI14:=Lib.hid hI14;have HT14:Hid (Turned (wkF g vo0) W4 W14):=Lib.hid ((HT13.out.trans (turned_below hy13)).transN ht14 (wkF_back (by first|exact HV13.out|exact .inl rfl)));have HV14:=Lib.hid (vo_step (by first|exact HV13.out|exact .inl rfl) hv14 (Nat.le_trans HT13.out.size hy13.size));clear hI14 hv14 ht14
      go_wp2_with fail
      refine hK.out _ _ (And.intro (HC36.out _ _ HI14.out) (HC25.out _ _ HI14.out)) (fun hHeld12=> ?_);clear hK K;refine td ?_;go_wp2
      first|go_end0|((try simp only[Exit.inBlock,Exit.then]);refine bodyPost_ret (results_none rfl _ _ _) rfl ?_)
      refine⟨rfl,b,HBN.out,vo14,m++[⟨vr14,joinedR (ownS e.side) e.r (nullsR cF),1⟩],?_,by exact HI14.out,HTW.out.trans2 HT14.out⟩;rw[←HAX.out];show ac (m++_)=aloneS p e.ev;unfold aloneS;rw[show keepsB p e.ev.side=true from HKO.out,if_pos rfl,ac_snoc,HMN.out,HOS.out];show _=[((1:Int),joinedR e.side e.r (nullsR (colsN p (farS e.side))))];rw[HFS.out,HCFE.out];rfl
    ·have hqt:q=true:=by rw[HQQ.out];exact decide_eq_true (by omega)
     have HLE:Hid (L.isEmpty=false):=Lib.hid (by rw[←HENS.out];cases l with|nil=>exact absurd rfl hne|cons y l=>rfl);subst hqt;have z39:=HI3.out.blk.cellR 39 rfl;go_wp2
     first|go_end0|((try simp only[Exit.inBlock,Exit.then]);refine bodyPost_ret (results_none rfl _ _ _) rfl ?_)
     refine⟨rfl,b,by rw[HBB.out,HTK.out],vo,m,?_,by rw[HLE.out];exact HI3.out,HTW3.out⟩;rw[←HAX.out,HLE.out,if_neg (by decide),HAC.out,HTK.out]
end Go.Proofs.YtjodlngbiikgfaaGreatDoor
